/-
  The reference: DivMod, Div, Mod.
-/
import Derived.IntWalk
import Derived.Maps.AppendAt
import Derived.Test.YteidokhjmbihlaaGreatFL1
import Derived.Test.YteidokhjmbihlaaGreatFE1
import Derived.Test.YteidokhjmbihlaaGreatFA
import Derived.Test.YteidokhjmbihlaaGreatFF
import Derived.Test.YteidokhjmbihlaaGreatFD1
set_option linter.all false
set_option maxRecDepth 100000
set_option maxHeartbeats 8000000
namespace Go.Proofs.YteidokhjmbihlaaGreat
open Go.RowKit
attribute [local go_sem ↓] Go.wp_at_zero Go.wp_at_succ
def Aw (w:World) (base:Nat) (v:Value) (i:Nat) (o:Nat->Nat):Prop:=w.ownsRow base 139 1 v i (lst i (wv o))
theorem Aw.lit0 (w:World) {base:Nat} (hb:base<=w.heap.size) (o:Nat->Nat):Aw (w.alloc (.cells #[] 139)) base (.slice (some ⟨w.heap.size,0,none⟩) 0 0) 0 o:=World.ownsRow_lit w #[] 0 hb (by decide) rfl
theorem Aw.up {w w':World} {base:Nat} {v:Value} {i:Nat} {o:Nat->Nat} (h:Aw w base v i o) (hb:Below w.heap.size w w'):Aw w' base v i o:=by
 refine World.ownsRow.kept h (row:=none) ⟨hb.os,hb.tape,hb.output,hb.size,fun k hk _=>hb.block k hk⟩ ?_
 cases hv:v.ownBlock with
 | none=>exact .inl rfl
 | some k=>exact .inr (by simp)
theorem Aw.alloc {w:World} {base:Nat} {v:Value} {i:Nat} {o:Nat->Nat} (h:Aw w base v i o) (ob:Obj):Aw (w.alloc ob) base v i o:=h.up (Qc _ _)
theorem Aw.drew {w:World} {base:Nat} {v:Value} {i:Nat} {o:Nat->Nat} (h:Aw w base v i o):Aw w.drew base v i o:=h
theorem QiX (i x:Nat) (o:Nat->Nat):lst i (wv o)++[.int .u32 (x:Int)]=lst (i+1) (wv (upd o i x)):=by
 unfold lst;rw[List.range_succ,List.map_append];congr 1
 ·refine List.map_congr_left fun j hj=>?_;rw[List.mem_range] at hj;unfold wv;rw[QaU _ _ _ _ (by omega)]
 ·simp[wv,QaZ]
theorem Aw.out {w:World} {base:Nat} {v:Value} {i:Nat} {o:Nat->Nat} (h:Aw w base v i o):∃ a c,v=.slice a i c/\i<=c/\Wd w a i o:=by
 have hx:=h.1;rcases h.2 with ⟨rfl,h0⟩|⟨g,cap,cur,rfl,h3,h4,h5,-⟩
 ·subst h0;exact⟨none,0,rfl,Nat.le_refl _,.inl rfl⟩
 ·refine⟨_,cap,rfl,h5,.inr ⟨g,0,rfl,(Ql h4).1,fun j hj=>?_⟩⟩;have e0:=World.ownsRow.cellAt h j (by omega);rw[Nat.zero_add,e0];exact Yw _ _ _ hj
theorem Qd4 {ops:Array Oper} {rest:List Oper} {o:Oper} {a:Act} {Q:Exit->Act->World->Prop} {w:World} (hgd:o.guard=none) (su sx:Operand) (t:TypeId)
  (ho:o.op=.call { callee:=.builtin .append,args:=#[su,sx],argTypes:=#[t,t] }) (ht:Tryz.prog.underlying t=some (.slice 139)) (base:Nat) (v:Value) (i:Nat) (f:Nat->Nat) (hs:a.eval su=v) (h:Aw w base v i f) (hbase:base<=w.heap.size)
  (B T c1:Nat) (fr:Nat×Nat) (x:Nat) (hxv:a.eval sx=.slice (some ⟨B,0,none⟩) 1 c1) (hB:w.heap[B]? = some (.cells #[.int .u32 (x:Int)] T fr)) (hl:i<=17592186044416)
  (hK:∀ v' w',Aw w' base v' (i+1) (upd f i x)->Below base w w'->wpList Tryz.prog ops Q rest (a.put o.dst v') w') :
  wpList Tryz.prog ops Q (o :: rest) a w:=by
 obtain⟨i0,hi,aC,aB,aA⟩:=info_parts Qgr;have aD:=World.ownsRow.lt h
 refine wpList_append_own w hgd su sx t ho base 139 i0 _ 1 4 ht hi aC aB aA rfl (by omega) v i (lst i (wv f)) hs h ⟨B,0,none⟩ 1 c1 [.int .u32 (x:Int)] hxv rfl
  (World.news_of_block hB) (by simp[Value.oneCell']) (by unfold maxLen;omega) (by omega) hbase fun v' w' h2 h3 _=>hK v' w' ?_ (Below.of_grown h3 hbase (fun k hk=>(aD k hk).1))
 rw[QiX] at h2;exact h2
theorem Qa8 (a:Option Addr) (n cap:Nat) (f:Nat->Nat) (i:Nat) (w:World) (hn:n<=4611686018427387904) (hi:i<=4611686018427387904) (hw:Wd w a n f) (hf:Wf f n) :
  Calls Tryz.prog 129 #[.slice a n cap,.int .i64 (i:Int)] w fun e w'=>e=.returned (.int .u64 (pad f n i:Int))/\w=w':=by
 have i0:(0:Int)<=(i:Int):=by omega
 by_cases hlt:i<n
 ·obtain⟨b,aA,rfl,hb,hc⟩:=hw.at hlt;have aC:=hc i hlt;have aB:=hf i hlt;rw[Qdb hlt];have i1:(i:Int)<(n:Int):=by omega
  have i2:¬ (n:Int)<=(i:Int):=by omega
  clear hc hlt;go_enter Tryz.func129,Tryz.ntmps129
  go_wp2_with fail;go_ret
  exact⟨rfl,rfl⟩
 ·rw[Qdo (by omega)];have i2:(n:Int)<=(i:Int):=by omega
  clear hlt;go_enter Tryz.func129,Tryz.ntmps129
  go_wp2_with fail;go_ret
  exact⟨rfl,rfl⟩
def Pl (w:World) (v:Value) (B x:Nat):Prop:=∃ a n c f,v=.slice a n c/\n<=c/\n<=B/\Wd w a n f/\Wf f n/\nv f n=x
theorem Pl.up {w w':World} {v:Value} {B x:Nat} (h:Pl w v B x) (hb:Below w.heap.size w w'):Pl w' v B x:=by
 obtain⟨a,n,c,f,h1,h2,h3,h4,h5⟩:=h;exact⟨a,n,c,f,h1,h2,h3,h4.up hb,h5⟩
theorem QiP (a b:Option Addr) (n m ca cb:Nat) (f h:Nat->Nat) (w:World) (hn:n<=2199023255552) (hm:m<=2199023255552) (hwf:Wd w a n f) (hwh:Wd w b m h) (hf:Wf f n) (hh:Wf h m) :
  Calls Tryz.prog 130 #[.slice a n ca,.slice b m cb] w fun e w'=>∃ v,e=.returned v/\Pl w' v (max n m+1) (nv f n+nv h m)/\Below w.heap.size w w':=by
 have aE:max (n:Int) (m:Int)=((max n m:Nat):Int):=by omega
 obtain⟨M,hM⟩:∃ M,M=max n m:=⟨_,rfl⟩;have aO:n<=M:=by omega
 have aP:m<=M:=by omega
 have aQ:M<=2199023255552:=by omega
 rw[<- hM] at aE |-;have aJ:=Qh aE;clear hM aE;go_enter Tryz.func130,Tryz.ntmps130
 go_wp2_with fail
 go_loopw [5,6,7] (fun s5 s6 s wq=>∃ (i c:Nat) (u:Value) (o:Nat->Nat),i<=M/\s=.int .i64 i/\s6=.int .u64 c/\c<=1/\s5=u/\Aw wq w.heap.size u i o/\Wf o i/\nv o i+c*4294967296 ^ i=nv (pad f n) i+nv (pad h m) i/\Below w.heap.size w wq)
  (fun _ _ s _=>M-(intOf s).toNat)
 case atStart=>exact⟨0,0,_,fun _=>0,Nat.zero_le _,rfl,rfl,by omega,rfl,Aw.lit0 _ (Nat.le_refl _) _,fun i hi=>absurd hi (Nat.not_lt_zero i),rfl,Qc _ _⟩
 case round=>
  obtain⟨i,c,u,o,hi,rfl,rfl,hc,rfl,hA,aH,aC,aB⟩:=hrel;have HV:=Qh aC;clear aC;have i0:(0:Int)<=(i:Int):=by omega
  by_cases hlt:i<M
  ·have i1:(i:Int)<max (n:Int) (m:Int):=by rw[aJ.out];omega
   have b1:=Qbr hf M i hlt;have b2:=Qbr hh M i hlt;go_wp2_with fail;refine(Qa8 a n ca f i wr (by omega) (by omega) (hwf.up aB) hf).mono ?_;rintro e w2 ⟨rfl,rfl⟩;go_wp2_with fail;refine(Qa8 b m cb h i wr (by omega) (by omega) (hwh.up aB) hh).mono ?_;rintro e w2 ⟨rfl,rfl⟩;have aA:=Qcr o (pad f n) (pad h m) i c ((c+(pad f n i+pad h m i))%4294967296) ((c+(pad f n i+pad h m i))/4294967296) (by omega) HV.out;have HS:=Qh aA;clear aA;generalize pad f n i=x at *;generalize pad h m i=y at *;go_wp2_with (at_builtin;go_must (refine Qd4 rfl (.tmp 27) (.tmp 30) _ rfl Tryz.underlying26 w.heap.size _ i o rfl (hA.alloc _) (by have:=aB.size;simp;omega) wr.heap.size _ _ _ ((c+(x+y))%4294967296) rfl (Zk1 _ _) (by omega) ?_);intro v' w4 aG aF)
   go_roundw
   case rel=>
    refine⟨i+1,(c+(x+y))/4294967296,_,_,by omega,by go_num,by go_num,by omega,rfl,aG,fun j hj=>?_,HS.out,(Bl.alloc aB _).trans aF⟩;by_cases e:j=i
    ·subst e;rw[QaZ];omega
    ·rw[QaU _ _ _ _ e];exact aH j (by omega)
   case measure=>simp[intOf];omega
  ·have i1:¬ (i:Int)<max (n:Int) (m:Int):=by rw[aJ.out];omega
   have aL:i=M:=by omega
   subst aL
   have aD:nv (upd o i c) (i+1)=nv f n+nv h m:=by
    have:=HV.out;rw[QbL _ _ _ aO,QbL _ _ _ aP] at this;simp only[nv,QaZ,QbN _ _ _ (Nat.le_refl _)];omega
   have HE:=Qh aD;have aI:(c:Int)%4294967296=(c:Int):=by omega
   have aR:=Qh aI;clear aD hlt aI;go_wp2_with (at_builtin;go_must (refine Qd4 rfl (.tmp 34) (.tmp 37) _ rfl Tryz.underlying26 w.heap.size _ i o rfl (hA.alloc _) (by have:=aB.size;simp;omega) wr.heap.size _ _ _ c rfl (Zk1 _ _) (by omega) ?_);intro v' w4 aG aF)
   go_ret
   obtain⟨a',c',rfl,aM,aK⟩:=aG.out;refine⟨_,rfl,⟨_,_,_,_,rfl,aM,Nat.le_refl _,aK,fun j hj=>?_,HE.out⟩,(Bl.alloc aB _).trans aF⟩;by_cases e:j=i
   ·subst e;rw[QaZ];omega
   ·rw[QaU _ _ _ _ e];exact aH j (by omega)
theorem QeC (a b:Option Addr) (n m ca cb:Nat) (f h:Nat->Nat) (w:World) (hn:n<=2199023255552) (hm:m<=n) (hle:nv h m<=nv f n) (hwf:Wd w a n f) (hwh:Wd w b m h) (hf:Wf f n) (hh:Wf h m) :
  Calls Tryz.prog 131 #[.slice a n ca,.slice b m cb] w fun e w'=>∃ v,e=.returned v/\Pl w' v n (nv f n-nv h m)/\Below w.heap.size w w':=by
 have aM:=Qh hle;clear hle;go_enter Tryz.func131,Tryz.ntmps131
 go_wp2_with fail
 go_loopw [5,6,7] (fun s5 s6 s wq=>∃ (i c:Nat) (u:Value) (o:Nat->Nat),i<=n/\s=.int .i64 i/\s6=.int .u64 c/\c<=1/\s5=u/\Aw wq w.heap.size u i o/\Wf o i/\nv o i+nv (pad h m) i+c*1*0=nv (pad f n) i+c*4294967296 ^ i/\Below w.heap.size w wq)
  (fun _ _ s _=>n-(intOf s).toNat)
 case atStart=>exact⟨0,0,_,fun _=>0,Nat.zero_le _,rfl,rfl,by omega,rfl,Aw.lit0 _ (Nat.le_refl _) _,fun i hi=>absurd hi (Nat.not_lt_zero i),rfl,Qc _ _⟩
 case round=>
  obtain⟨i,c,u,o,hi,rfl,rfl,hc,rfl,hA,aE,aB,aD⟩:=hrel;have HV:=Qh aB;clear aB;have i0:(0:Int)<=(i:Int):=by omega
  by_cases hlt:i<n
  ·have i1:(i:Int)<(n:Int):=by omega
   have b1:=Qbr hf n i hlt;have b2:=Qbr hh n i hlt;go_wp2_with fail;refine(Qa8 a n ca f i wr (by omega) (by omega) (hwf.up aD) hf).mono ?_;rintro e w2 ⟨rfl,rfl⟩;go_wp2_with fail;refine(Qa8 b m cb h i wr (by omega) (by omega) (hwh.up aD) hh).mono ?_;rintro e w2 ⟨rfl,rfl⟩;have aA:=QcJ o (pad f n) (pad h m) i c ((4294967296+pad f n i-pad h m i-c)%4294967296) (1-(4294967296+pad f n i-pad h m i-c)/4294967296) (by omega) HV.out;have HS:=Qh aA;clear aA;generalize pad f n i=x at *;generalize pad h m i=y at *;have hz:((4294967296+(x:Int)-(y:Int)-(c:Int))%4294967296)=(((4294967296+x-y-c)%4294967296:Nat):Int):=by omega
   have aF:1-(4294967296+(x:Int)-(y:Int)-(c:Int))/4294967296=((1-(4294967296+x-y-c)/4294967296:Nat):Int):=by omega
   have HZ:=Qh hz;have aL:=Qh aF;clear hz aF;go_wp2_with (at_builtin;go_must (refine Qd4 rfl (.tmp 26) (.tmp 29) _ rfl Tryz.underlying26 w.heap.size _ i o rfl (hA.alloc _) (by have:=aD.size;simp;omega) wr.heap.size 139 _ (0,0) ((4294967296+x-y-c)%4294967296) rfl (by rw[<- HZ.out];exact Zk1 _ _) (by omega) ?_);intro v' w4 aK aJ)
   go_roundw
   case rel=>
    refine⟨i+1,1-(4294967296+x-y-c)/4294967296,_,_,by omega,by go_num,by rw[aL.out],by omega,rfl,aK,fun j hj=>?_,HS.out,(Bl.alloc aD _).trans aJ⟩;by_cases e:j=i
    ·subst e;rw[QaZ];omega
    ·rw[QaU _ _ _ _ e];exact aE j (by omega)
   case measure=>simp[intOf];omega
  ·have aH:i=n:=by omega
   subst aH;have aC:=Qhz o f h i m c hc aE hf hm aM.out HV.out;have HE:=Qh aC;clear aC hlt;go_wp2_with fail;go_ret
   obtain⟨a',c',rfl,aI,aG⟩:=hA.out;exact⟨_,rfl,⟨_,_,_,_,rfl,aI,Nat.le_refl _,aG,aE,HE.out⟩,aD⟩
theorem Qhb (x y:Nat) (hx:x<4294967296) (hy:y<4294967296) :
  bits BinOp.or IntKind.u64 ((x/2:Nat):Int) ((y*2147483648:Nat):Int)%4294967296=(((x+4294967296*y)/2%4294967296:Nat):Int):=by
 have e:y*2147483648=2 ^ 31*y:=by omega
 rw[e,u64_or_nat _ _ (by omega) (by omega),Nat.or_comm,<- Nat.two_pow_add_eq_or_of_lt (show x/2<2 ^ 31 by omega)];omega
theorem Qgu (f:Nat->Nat) (i n:Nat) (hi:i<n) (Hf:Wf f n):nv f n/2/4294967296 ^ i%4294967296=(f i+4294967296*pad f n (i+1))/2%4294967296:=by
 have:=QcY f i n 1 hi Hf (by decide);rw[Nat.pow_one] at this;rw[this];unfold pad;rfl
theorem Qex (x c k:Nat) (hx:x<4294967296) (hc:c<2 ^ k) (hk:k<32) :
  bits BinOp.or IntKind.u64 ((x*2 ^ k:Nat):Int) (c:Int)%4294967296=((x*2 ^ k%4294967296+c:Nat):Int)/\x*2 ^ k%4294967296+c<4294967296/\x*2 ^ k/4294967296<2 ^ k:=by
 have aD:2 ^ k<=2147483648:=Nat.pow_le_pow_right (n:=2) (by decide) (show k<=31 by omega);have hp:0<2 ^ k:=Nat.pow_pos (by decide);have hb:x*2 ^ k<=4294967295*2147483648:=Nat.mul_le_mul (by omega) aD
 have aE:x*2 ^ k%4294967296=2 ^ k*(x%2 ^ (32-k)):=by
  have:4294967296=2 ^ k*2 ^ (32-k):=by rw[<- Nat.pow_add,show k+(32-k)=32 by omega]
  rw[this,Nat.mul_comm x,Nat.mul_mod_mul_left]
 have hm:x%2 ^ (32-k)+1<=2 ^ (32-k):=Nat.mod_lt _ (Nat.pow_pos (by decide));have aB:2 ^ k*(x%2 ^ (32-k)+1)<=2 ^ k*2 ^ (32-k):=Nat.mul_le_mul_left _ hm;rw[<- Nat.pow_add,show k+(32-k)=32 by omega,Nat.mul_add,Nat.mul_one] at aB
 have aA:x*2 ^ k/4294967296<2 ^ k:=by
  apply Nat.div_lt_of_lt_mul
  exact Nat.mul_lt_mul_of_pos_right hx hp
 have aC:x*2 ^ k%4294967296+c<4294967296:=by omega
 refine⟨?_,aC,aA⟩;rw[u64_or_nat _ _ (by omega) (by omega)];have e:x*2 ^ k ||| c=x*2 ^ k+c:=by rw[Nat.mul_comm x,<- Nat.two_pow_add_eq_or_of_lt hc]
 rw[e];have:(x*2 ^ k+c)%4294967296=x*2 ^ k%4294967296+c:=by omega
 omega
theorem Qg1 (o:Nat->Nat) (V c i j M x k:Nat) (hM:M*4294967296 ^ j=2 ^ k*4294967296 ^ i) (e:nv o i+c*4294967296 ^ i=V*M) :
  nv (upd o i (x*2 ^ k%4294967296+c)) (i+1)+x*2 ^ k/4294967296*4294967296 ^ (i+1)=(V+x*4294967296 ^ j)*M:=by
 simp only[nv,QaZ,QbN _ _ _ (Nat.le_refl _)];have hd:=Nat.div_add_mod (x*2 ^ k) 4294967296
 have e1:x*4294967296 ^ j*M=x*2 ^ k*4294967296 ^ i:=by
  rw[Nat.mul_assoc,Nat.mul_comm (4294967296 ^ j),hM,Nat.mul_assoc]
 rw[Nat.add_mul V,e1,<- e,Nat.pow_succ,Nat.add_mul];generalize x*2 ^ k/4294967296=q at *;generalize x*2 ^ k%4294967296=r at *;rw[<- hd,Nat.add_mul];have:q*(4294967296 ^ i*4294967296)=4294967296*q*4294967296 ^ i:=by simp only[Nat.mul_assoc,Nat.mul_comm,Nat.mul_left_comm]
 rw[this];omega
theorem Qkn {f g:Nat->Nat} {n m M i:Nat} (hf:Wf f n) (hg:Wf g m) (hn:n<=M) (hm:m<=M) (hi:i<M) (he:∀ j,i<j->j<M->pad f n j=pad g m j) (hne:pad f n i≠pad g m i) :
  decide (nv g m<=nv f n)=decide (pad g m i<pad f n i):=by
 have e1:=Qcs (pad f n) (i+1) M hi;have e2:=Qcs (pad g m) (i+1) M hi;have e3:hv (pad f n) (i+1) M=hv (pad g m) (i+1) M:=QdR fun j hj hj'=>he j (by omega) hj';rw[QbL _ _ _ hn] at e1;rw[QbL _ _ _ hm,<- e3] at e2;have h1:=Qbk (Qbr hf i);have h2:=Qbk (Qbr hg i);simp only[nv] at e1 e2;generalize 4294967296 ^ (i+1)*hv (pad f n) (i+1) M=K at *;generalize nv (pad f n) i=a at *;generalize nv (pad g m) i=b at *;generalize 4294967296 ^ i=P at *;rw[e1,e2];rcases Nat.lt_or_ge (pad g m i) (pad f n i) with c|c
 ·have:(pad g m i+1)*P<=pad f n i*P:=Nat.mul_le_mul_right _ c;rw[Nat.add_mul,Nat.one_mul] at this;rw[decide_eq_true (by omega:b+pad g m i*P+K<=a+pad f n i*P+K),decide_eq_true c]
 ·have:(pad f n i+1)*P<=pad g m i*P:=Nat.mul_le_mul_right _ (by omega);rw[Nat.add_mul,Nat.one_mul] at this;rw[decide_eq_false (by omega:¬ b+pad g m i*P+K<=a+pad f n i*P+K),decide_eq_false (by omega)]
theorem Qkb {f g:Nat->Nat} {n m M:Nat} (hn:n<=M) (hm:m<=M) (he:∀ j,j<M->pad f n j=pad g m j):decide (nv g m<=nv f n)=true:=by
 have:nv f n=nv g m:=by rw[<- QbL f n M hn,<- QbL g m M hm];exact Qbg he
 rw[this];simp
theorem QiA {f:Nat->Nat} {n j:Nat} (hn:0<n) (hf:Wf f n) (h1:2 ^ j<=f (n-1)) (h2:f (n-1)<2 ^ (j+1)):2 ^ (32*(n-1)+j)<=nv f n/\nv f n<2 ^ (32*(n-1)+(j+1)):=by
 obtain⟨k,rfl⟩:∃ k,n=k+1:=⟨n-1,by omega⟩;simp only[Nat.add_sub_cancel] at *;have h3:=Qbk (hf.mono (m:=k) (by omega));have e:(4294967296:Nat) ^ k=2 ^ (32*k):=by rw[Nat.pow_mul]
 rw[e] at h3;simp only[nv,e,Nat.pow_add];have h4:2 ^ (32*k)*2 ^ j<=f k*2 ^ (32*k):=by rw[Nat.mul_comm];exact Nat.mul_le_mul_right _ h1
 have h5:(f k+1)*2 ^ (32*k)<=2 ^ (j+1)*2 ^ (32*k):=Nat.mul_le_mul_right _ h2;rw[Nat.add_mul,Nat.one_mul,Nat.pow_add,Nat.mul_comm (2 ^ j*2 ^ 1)] at h5;constructor <;> omega
def Mo (w:World) (g n:Nat) (f:Nat->Nat):Prop:=∃ tot F,n<=tot/\Own w g 139 tot F/\∀ j,j<n->F j=wv f j
theorem Mo.of {w:World} {g n:Nat} {f:Nat->Nat} (h:Own w g 139 n (wv f)):Mo w g n f:=⟨n,_,Nat.le_refl _,h,fun _ _=>rfl⟩
theorem Mo.lt {w:World} {g n:Nat} {f:Nat->Nat} (h:Mo w g n f):g<w.heap.size:=by obtain⟨_,_,_,h,_⟩:=h;exact h.lt
theorem Mo.cell {w:World} {g n:Nat} {f:Nat->Nat} (h:Mo w g n f) {i:Nat} (hi:i<n):w.cell? ⟨g,i,none⟩=some (.int .u32 (f i:Int)):=by
 obtain⟨aA,F,h1,h2,h3⟩:=h;rw[h2.cell (i:=i) (by omega),h3 i hi];rfl
theorem Mo.free {w:World} {g n:Nat} {f:Nat->Nat} (h:Mo w g n f) (i:Nat):w.frozen? ⟨g,i,none⟩=false:=by obtain⟨_,_,_,h,_⟩:=h;exact h.free i
theorem Mo.up {w w':World} {g n:Nat} {f:Nat->Nat} (h:Mo w g n f) (hb:Below w.heap.size w w'):Mo w' g n f:=by
 obtain⟨aA,F,h1,h2,h3⟩:=h;exact⟨aA,F,h1,h2.up hb,h3⟩
theorem Mo.only {w w':World} {g b n:Nat} {f:Nat->Nat} (h:Mo w b n f) (hb:Only g w w') (hne:b≠g):Mo w' b n f:=by
 obtain⟨aA,F,h1,h2,h3⟩:=h;exact⟨aA,F,h1,hb.own h2 hne,h3⟩
theorem Mo.wd {w:World} {g n:Nat} {f:Nat->Nat} (h:Mo w g n f):Wd w (some ⟨g,0,none⟩) n f:=
 .inr ⟨g,0,rfl,h.lt,fun i hi=>by rw[Nat.zero_add];exact h.cell hi⟩
theorem Mo.setw {w:World} {g n:Nat} {f:Nat->Nat} (h:Mo w g n f) {i:Nat} (hi:i<n) (x:Nat):Mo (w.setCell ⟨g,i,none⟩ (.int .u32 (x:Int))) g n (upd f i x):=by
 obtain⟨aA,F,h1,h2,h3⟩:=h;refine⟨aA,_,h1,h2.set (by omega) _,fun j hj=>?_⟩;unfold Qax wv upd;split
 ·rfl
 ·exact h3 j hj
theorem Mo.congr {w:World} {g n:Nat} {f f':Nat->Nat} (h:Mo w g n f) (e:∀ j,j<n->f j=f' j):Mo w g n f':=by
 obtain⟨aA,F,h1,h2,h3⟩:=h;exact⟨aA,F,h1,h2,fun j hj=>by rw[h3 j hj];unfold wv;rw[e j hj]⟩
theorem Wd.only {w w':World} {g:Nat} {a:Option Addr} {n:Nat} {f:Nat->Nat} (h:Wd w a n f) (hb:Only g w w') (hne:∀ b,a=some b->b.block≠g):Wd w' a n f:=by
 rcases h with h|⟨b,off,e,h1,h2⟩
 ·exact .inl h
 ·have hn:=hne _ e;refine .inr ⟨b,off,e,by rw[hb.2.2];exact h1,fun i hi=>?_⟩;rw[hb.cell hn];exact h2 i hi
theorem Aw.own {w:World} {base:Nat} {v:Value} {i:Nat} {o:Nat->Nat} (h:Aw w base v i o) (hi:0<i):∃ g cap,v=.slice (some ⟨g,0,none⟩) i cap/\i<=cap/\base<=g/\Mo w g i o:=by
 have hx:=h.1;rcases h.2 with ⟨rfl,h0⟩|⟨g,cap,cur,rfl,h3,h4,h5,h6⟩
 ·omega
 ·have hl:i<=cur.size:=by
   have e0:=World.ownsRow.cellAt h (i-1) (by omega);rw[Yw _ _ _ (by omega)] at e0;simp only[World.cell?,h4] at e0;rcases Nat.lt_or_ge (i-1) cur.size with hc|hc
   ·omega
   ·rw[Array.getElem?_eq_none (by omega)] at e0;simp at e0
  refine⟨g,cap,rfl,h5,h3,cur.size,fun j=>cur.getD j undef,hl,⟨cur,h4,rfl,fun j hj=>?_⟩,fun j hj=>?_⟩
  ·simp[hj]
  ·have e0:=World.ownsRow.cellAt h j (by omega);rw[Yw _ _ _ hj] at e0;simp only[World.cell?,h4] at e0;have e1:cur[j]? = some (wv o j):=e0;simp[e1]
theorem Qkl (a:Option Addr) (n cap:Nat) (w:World) :
  Calls Tryz.prog 129 #[.slice a n cap,.int .i64 (-1)] w fun e w'=>e=.returned (.int .u64 0)/\w=w':=by
 go_enter Tryz.func129,Tryz.ntmps129
 go_wp2_with fail;go_ret
 exact⟨rfl,rfl⟩
theorem Qfg (a b:Option Addr) (n m ca cb:Nat) (f h:Nat->Nat) (w:World) (hn:n<=4398046511104) (hm:m<=4398046511104) (hwf:Wd w a n f) (hwh:Wd w b m h) (hf:Wf f n) (hh:Wf h m) :
  Calls Tryz.prog 199 #[.slice a n ca,.slice b m cb] w fun e w'=>e=.returned (.bool (decide (nv h m<=nv f n)))/\w=w':=by
 have aB:max (n:Int) (m:Int)=((max n m:Nat):Int):=by omega
 obtain⟨M,hM⟩:∃ M,M=max n m:=⟨_,rfl⟩;have aC:n<=M:=by omega
 have aD:m<=M:=by omega
 have aG:M<=4398046511104:=by omega
 rw[<- hM] at aB;have aF:=Qh aB;have aE:IntKind.i64.wrap (max (n:Int) (m:Int)-1)=max (n:Int) (m:Int)-1:=IntWalk.i64_in _ (by omega);clear hM aB;go_enter Tryz.func199,Tryz.ntmps199
 go_wp2_with fail;rw[aF.out];clear aE
 go_loopw [5] (fun s wq=>∃ k:Nat,k<=M/\s=.int .i64 ((k:Int)-1)/\(∀ j,k<=j->j<M->pad f n j=pad h m j)/\w=wq)
  (fun s _=>((intOf s)+1).toNat)
 case atStart=>exact⟨M,Nat.le_refl _,rfl,fun j h1 h2=>by omega,rfl⟩
 case round=>
  obtain⟨k,hk,rfl,he,rfl⟩:=hrel;rcases k with _|i
  ·have c0:¬ (0:Int)<=((0:Nat):Int)-1:=by omega
   have aA:=Qkb (f:=f) (g:=h) aC aD (fun j hj=>he j (Nat.zero_le _) hj);have HR:=Qh aA;clear aA he;go_wp2_with fail;go_ret
   exact⟨Qa2 (by rw[HR.out];rfl),rfl⟩
  ·rw[show (((i+1:Nat):Int)-1)=(i:Int) by omega];have c0:(0:Int)<=(i:Int):=by omega
   have b1:=Qbr hf M i hk;have b2:=Qbr hh M i hk;have HE:=Qh he;clear he;by_cases hne:pad f n i=pad h m i
   ·have c1:((pad f n i:Int) != (pad h m i:Int))=false:=by rw[hne];simp
    go_wp2_with fail;refine(Qa8 a n ca f i _ (by omega) (by omega) hwf hf).mono ?_;rintro e w2 ⟨rfl,rfl⟩;go_wp2_with fail;refine(Qa8 b m cb h i _ (by omega) (by omega) hwh hh).mono ?_;rintro e w2 ⟨rfl,rfl⟩;go_wp2_with fail;go_roundw
    case rel=>
     refine⟨i,by omega,by first|rfl|go_num,fun j h1 h2=>?_,by first|rfl|trivial⟩;rcases Nat.eq_or_lt_of_le h1 with e|e
     ·subst e;exact hne
     ·exact HE.out j e h2
    case measure=>simp[intOf] <;> omega
   ·have c1:((pad f n i:Int) != (pad h m i:Int))=true:=by rw[bne_iff_ne];omega
    have aA:=Qkn hf hh aC aD hk (fun j h1 h2=>HE.out j (by omega) h2) hne;have HR:=Qh aA;clear aA;go_wp2_with fail;refine(Qa8 a n ca f i _ (by omega) (by omega) hwf hf).mono ?_;rintro e w2 ⟨rfl,rfl⟩;go_wp2_with fail;refine(Qa8 b m cb h i _ (by omega) (by omega) hwh hh).mono ?_;rintro e w2 ⟨rfl,rfl⟩;go_wp2_with fail;refine(Qa8 a n ca f i _ (by omega) (by omega) hwf hf).mono ?_;rintro e w2 ⟨rfl,rfl⟩;go_wp2_with fail;refine(Qa8 b m cb h i _ (by omega) (by omega) hwh hh).mono ?_;rintro e w2 ⟨rfl,rfl⟩;go_wp2_with fail;go_ret
    exact⟨Qa2 (by rw[HR.out];simp),rfl⟩
theorem QdN (va vb:Value) (x y:Int) (w:World) (hx:It w va x) (hy:It w vb y) (hsx:sz x<=2199023255552) (hsy:sz y<=2199023255552) :
  Calls Tryz.prog 83 #[va,vb] w fun e w'=>∃ v,e=.returned v/\It w' v (x+y)/\Below w.heap.size w w':=by
 obtain⟨a,ca,f,rfl,h1,h2,h3,h4,h5⟩:=hx.parts;obtain⟨b,cb,g,rfl,k1,k2,k3,k4,k5⟩:=hy.parts;have H5:=Qh h5;have K5:=Qh k5;clear h5 k5;obtain⟨W,hW,hw,d1,d2,d3,n1,n2,n3,-⟩:=Qbn w (decide (x<0)) (decide (y<0)) a b (sz x) (sz y) ca cb 33;replace h2:=h2.up hw;replace k2:=k2.up hw;clear hx hy;by_cases hs:(decide (x<0) == decide (y<0))=true
 ·have HS:=Qh hs;have p1:=d1.c0;have p2:=d1.c1;have q1:=d2.c0;have q2:=d2.c1;go_enter Tryz.func83,Tryz.ntmps83
  go_wp2_with fail;rw[<- hW];clear hW;clear p1 p2 q1 q2;replace hw:=hw.drew;replace d1:=d1.drew;replace d2:=d2.drew;replace d3:=d3.drew;replace n3:=n3.drew;replace h2:Wd W.drew _ _ _:=h2;replace k2:Wd W.drew _ _ _:=k2
  go_region_held3 (fun w'=>w'.cell? ⟨w.heap.size,0,none⟩=some (.bool (decide (x<0)))/\w'.cell? ⟨w.heap.size,1,none⟩=some (.slice a (sz x) ca)/\w'.cell? ⟨w.heap.size+1,1,none⟩=some (.slice b (sz y) cb))
   (first|exact⟨d1.c0,d1.c1,d2.c1⟩|exact⟨((d1.other (by omega) _ _).other (by omega) _ _).c0,((d1.other (by omega) _ _).other (by omega) _ _).c1,((d2.other (by omega) _ _).other (by omega) _ _).c1⟩|exact⟨(d1.up (Qc _ _)).c0,(d1.up (Qc _ _)).c1,(d2.up (Qc _ _)).c1⟩|(go_keep;done)|(refine⟨?_,?_,?_⟩ <;> (go_keep;done)))
   (first
    | (go_at_call 130;refine(QiP a b (sz x) (sz y) ca cb f g _ hsx hsy h2 k2 h3 k3).mono ?_;rintro e w1 ⟨vm,rfl,aC,hb⟩;obtain⟨a',n',c',o,rfl,q1,q2,q3,q4,q5⟩:=aC;replace n3:=n3.up d3.lt hb;replace d1:=d1.up hb;replace d2:=d2.up hb;replace d3:=d3.up hb;replace hw:=hw.trans (hb.mono hw.size);clear hb)
    | (go_at_call 53;refine(Qbu _ a' n' c' o _ q1 (by omega) q3 q4).mono ?_;rintro e w2 ⟨v,rfl,hv,hb⟩;replace n3:=n3.up d3.lt hb;replace d1:=d1.up hb;replace d2:=d2.up hb;replace d3:=d3.up hb;replace hw:=hw.trans (hb.mono hw.size);clear hb;have u0:=d3.c0;have u1:=d3.c1;have u2:=d3.f0;have u3:=d3.f1;obtain⟨s',a2,n2,aD,rfl⟩:=hv.shape))
  all_goals (go_wp2_with fail;rw[q5,Qjv x y f g _ _ H5.out K5.out HS.out] at hv;exact Qbt (B:=w.heap.size+2) rfl rfl rfl (d3.put _ _) ⟨_,rfl,hv.put n3 _ _ _ _,(hw.setCell (by show w.heap.size<=w.heap.size+2;omega) _).setCell (by show w.heap.size<=w.heap.size+2;omega) _⟩)
 ·have aF:(decide (x<0) == decide (y<0))=false:=by simpa using hs
  have HS:=Qh aF;clear hs;by_cases hlt:nv f (sz x)<nv g (sz y)
  ·have aE:sz x<=sz y:=by have:=Qa6 (Nat.le_of_lt hlt);rw[QaV h3 h4,QaV k3 k4] at this;exact this
   have aA:nv f (sz x)<=nv g (sz y):=Nat.le_of_lt hlt;have aG:decide (0<=QaW (nv f (sz x):Int) (nv g (sz y):Int))=false:=by rw[Qbb (by omega)];rfl
   have p1:=d1.c0;have p2:=d1.c1;have q1:=d2.c0;have q2:=d2.c1;go_enter Tryz.func83,Tryz.ntmps83
   go_wp2_with fail;rw[<- hW];clear hW;refine(Qco a b (sz x) (sz y) ca cb f g _ (by omega) (by omega) h2 k2 h3 k3 h4 k4).mono ?_;rintro e w5 ⟨rfl,nk,aB⟩;clear p1 p2 q1 q2;replace hw:=Below.drewN hw nk;replace d1:=d1.drewN nk;replace d2:=d2.drewN nk;replace d3:=d3.drewN nk;replace n3:=n3.drewN nk;replace h2:=h2.drewN nk;replace k2:=k2.drewN nk;rw[<- aB] at *;clear aB;generalize hWW:w5=W at *;clear hWW;have p1:=d1.c0;have p2:=d1.c1;have q1:=d2.c0;have q2:=d2.c1;go_wp2_with fail;clear p1 p2 q1 q2;replace hw:=hw.drew;replace d1:=d1.drew;replace d2:=d2.drew;replace d3:=d3.drew;replace n3:=n3.drew;replace h2:Wd W.drew _ _ _:=h2;replace k2:Wd W.drew _ _ _:=k2
   go_region_held3 (fun w'=>w'.cell? ⟨w.heap.size+1,0,none⟩=some (.bool (decide (y<0)))/\w'.cell? ⟨w.heap.size+1,1,none⟩=some (.slice b (sz y) cb)/\w'.cell? ⟨w.heap.size,1,none⟩=some (.slice a (sz x) ca))
    (first|exact⟨d2.c0,d2.c1,d1.c1⟩|exact⟨((d2.other (by omega) _ _).other (by omega) _ _).c0,((d2.other (by omega) _ _).other (by omega) _ _).c1,((d1.other (by omega) _ _).other (by omega) _ _).c1⟩|exact⟨(d2.up (Qc _ _)).c0,(d2.up (Qc _ _)).c1,(d1.up (Qc _ _)).c1⟩|(go_keep;done)|(refine⟨?_,?_,?_⟩ <;> (go_keep;done)))
    (first
     | (go_at_call 131;refine(QeC b a (sz y) (sz x) cb ca g f _ hsy aE aA k2 h2 k3 h3).mono ?_;rintro e w1 ⟨vm,rfl,aC,hb⟩;obtain⟨a',n',c',o,rfl,q1,q2,q3,q4,q5⟩:=aC;replace n3:=n3.up d3.lt hb;replace d1:=d1.up hb;replace d2:=d2.up hb;replace d3:=d3.up hb;replace hw:=hw.trans (hb.mono hw.size);clear hb)
     | (go_at_call 53;refine(Qbu _ a' n' c' o _ q1 (by omega) q3 q4).mono ?_;rintro e w2 ⟨v,rfl,hv,hb⟩;replace n3:=n3.up d3.lt hb;replace d1:=d1.up hb;replace d2:=d2.up hb;replace d3:=d3.up hb;replace hw:=hw.trans (hb.mono hw.size);clear hb;have u0:=d3.c0;have u1:=d3.c1;have u2:=d3.f0;have u3:=d3.f1;obtain⟨s',a2,n2,aD,rfl⟩:=hv.shape))
   all_goals (go_wp2_with fail;rw[q5,QfL y x g f _ _ K5.out H5.out (by rw[Bool.beq_comm];exact HS.out) aA,Int.add_comm] at hv;exact Qbt (B:=w.heap.size+2) rfl rfl rfl (d3.put _ _) ⟨_,rfl,hv.put n3 _ _ _ _,(hw.setCell (by show w.heap.size<=w.heap.size+2;omega) _).setCell (by show w.heap.size<=w.heap.size+2;omega) _⟩)
  ·have aA:nv g (sz y)<=nv f (sz x):=by omega
   have aE:sz y<=sz x:=by have:=Qa6 aA;rw[QaV h3 h4,QaV k3 k4] at this;exact this
   have aG:decide (0<=QaW (nv f (sz x):Int) (nv g (sz y):Int))=true:=by
    rcases Nat.lt_or_ge (nv g (sz y)) (nv f (sz x)) with c|c
    ·rw[Qbc (by omega)];rfl
    ·rw[Qbx (by omega)];rfl
   have p1:=d1.c0;have p2:=d1.c1;have q1:=d2.c0;have q2:=d2.c1;go_enter Tryz.func83,Tryz.ntmps83
   go_wp2_with fail;rw[<- hW];clear hW;refine(Qco a b (sz x) (sz y) ca cb f g _ (by omega) (by omega) h2 k2 h3 k3 h4 k4).mono ?_;rintro e w5 ⟨rfl,nk,aB⟩;clear p1 p2 q1 q2;replace hw:=Below.drewN hw nk;replace d1:=d1.drewN nk;replace d2:=d2.drewN nk;replace d3:=d3.drewN nk;replace n3:=n3.drewN nk;replace h2:=h2.drewN nk;replace k2:=k2.drewN nk;rw[<- aB] at *;clear aB;generalize hWW:w5=W at *;clear hWW;have p1:=d1.c0;have p2:=d1.c1;have q1:=d2.c0;have q2:=d2.c1;go_wp2_with fail;clear p1 p2 q1 q2;replace hw:=hw.drew;replace d1:=d1.drew;replace d2:=d2.drew;replace d3:=d3.drew;replace n3:=n3.drew;replace h2:Wd W.drew _ _ _:=h2;replace k2:Wd W.drew _ _ _:=k2
   go_region_held3 (fun w'=>w'.cell? ⟨w.heap.size,0,none⟩=some (.bool (decide (x<0)))/\w'.cell? ⟨w.heap.size,1,none⟩=some (.slice a (sz x) ca)/\w'.cell? ⟨w.heap.size+1,1,none⟩=some (.slice b (sz y) cb))
    (first|exact⟨d1.c0,d1.c1,d2.c1⟩|exact⟨((d1.other (by omega) _ _).other (by omega) _ _).c0,((d1.other (by omega) _ _).other (by omega) _ _).c1,((d2.other (by omega) _ _).other (by omega) _ _).c1⟩|exact⟨(d1.up (Qc _ _)).c0,(d1.up (Qc _ _)).c1,(d2.up (Qc _ _)).c1⟩|(go_keep;done)|(refine⟨?_,?_,?_⟩ <;> (go_keep;done)))
    (first
     | (go_at_call 131;refine(QeC a b (sz x) (sz y) ca cb f g _ hsx aE aA h2 k2 h3 k3).mono ?_;rintro e w1 ⟨vm,rfl,aC,hb⟩;obtain⟨a',n',c',o,rfl,q1,q2,q3,q4,q5⟩:=aC;replace n3:=n3.up d3.lt hb;replace d1:=d1.up hb;replace d2:=d2.up hb;replace d3:=d3.up hb;replace hw:=hw.trans (hb.mono hw.size);clear hb)
     | (go_at_call 53;refine(Qbu _ a' n' c' o _ q1 (by omega) q3 q4).mono ?_;rintro e w2 ⟨v,rfl,hv,hb⟩;replace n3:=n3.up d3.lt hb;replace d1:=d1.up hb;replace d2:=d2.up hb;replace d3:=d3.up hb;replace hw:=hw.trans (hb.mono hw.size);clear hb;have u0:=d3.c0;have u1:=d3.c1;have u2:=d3.f0;have u3:=d3.f1;obtain⟨s',a2,n2,aD,rfl⟩:=hv.shape))
   all_goals (go_wp2_with fail;rw[q5,QfL x y f g _ _ H5.out K5.out HS.out aA] at hv;exact Qbt (B:=w.heap.size+2) rfl rfl rfl (d3.put _ _) ⟨_,rfl,hv.put n3 _ _ _ _,(hw.setCell (by show w.heap.size<=w.heap.size+2;omega) _).setCell (by show w.heap.size<=w.heap.size+2;omega) _⟩)
theorem Qi6 (g n ca:Nat) (f:Nat->Nat) (w:World) (hn:n<=4398046511104) (hO:Mo w g n f) (hf:Wf f n) :
  Calls Tryz.prog 201 #[.slice (some ⟨g,0,none⟩) n ca] w fun e w'=>e=.returned (.tuple #[])/\∃ f',Mo w' g n f'/\Wf f' n/\nv f' n=nv f n/2/\Only g w w':=by
 go_enter Tryz.func201,Tryz.ntmps201
 go_wp2_with fail
 go_loopw [2] (fun s wq=>∃ (i:Nat) (o:Nat->Nat),i<=n/\s=.int .i64 i/\Mo wq g n o/\(∀ j,i<=j->o j=f j)/\Wf o n/\nv o i=nv f n/2%4294967296 ^ i/\Only g w wq)
  (fun s _=>n-(intOf s).toNat)
 case atStart=>exact⟨0,f,Nat.zero_le _,rfl,hO,fun _ _=>rfl,hf,by simp[nv,Nat.mod_one],Only.refl _ _⟩
 case round=>
  clear hO;obtain⟨i,o,hi,rfl,hO,he,aB,aA,aC⟩:=hrel;have HV:=Qh aA;have HE:=Qh he;clear aA he;have i0:(0:Int)<=(i:Int):=by omega
  by_cases hlt:i<n
  ·have i1:(i:Int)<(n:Int):=by omega
   have aE:IntKind.i64.wrap ((i:Int)+1)=((i+1:Nat):Int):=by rw[IntWalk.i64_in _ (by omega)];omega
   have c0:=hO.cell hlt;have c1:=hO.free i;have hd:=Qgu f i n hlt hf;have x0:=hf i hlt;have y0:=Qbr hf (i+2) (i+1) (by omega)
   have ep:pad o n (i+1)=pad f n (i+1):=by
    unfold pad;split
    ·exact HE.out _ (by omega)
    ·rfl
   have hw:=Qhb (f i) (pad f n (i+1)) x0 y0;rw[HE.out i (Nat.le_refl _)] at c0;go_upto_region 3 with fail;go_wp2_with fail;refine(Qa8 _ n ca o i _ (by omega) (by omega) hO.wd aB).mono ?_;rintro e w2 ⟨rfl,rfl⟩;rw[Qdb hlt,HE.out i (Nat.le_refl _)];go_wp2_with fail;rw[show (i:Int)+1=((i+1:Nat):Int) by omega];refine(Qa8 _ n ca o (i+1) _ (by omega) (by omega) hO.wd aB).mono ?_;rintro e w2 ⟨rfl,rfl⟩;rw[ep];generalize pad f n (i+1)=y at *;generalize f i=x at *;have e1:(x:Int)/2=((x/2:Nat):Int):=by omega
   have e2:(y:Int)*2147483648=((y*2147483648:Nat):Int):=by omega
   have HW:=Qh (show bits BinOp.or IntKind.u64 ((x:Int)/2) ((y:Int)*2147483648)%4294967296=(((x+4294967296*y)/2%4294967296:Nat):Int) by rw[e1,e2];exact hw);clear hw e1 e2;go_wp2_with fail;go_roundw
   case rel=>
    rw[HW.out];refine⟨i+1,upd o i ((x+4294967296*y)/2%4294967296),by omega,by go_num,hO.setw hlt _,fun j hj=>?_,fun j hj=>?_,Qci _ i o HV.out _ hd.symm,aC.set i _⟩
    ·rw[QaU _ _ _ _ (by omega)];exact HE.out j (by omega)
    ·by_cases e:j=i
     ·subst e;rw[QaZ];exact Nat.mod_lt _ (by decide)
     ·rw[QaU _ _ _ _ e];exact aB j hj
   case measure=>simp[intOf];omega
  ·have i1:¬ (i:Int)<(n:Int):=by omega
   have aD:i=n:=by omega
   subst aD;have hv:=HV.out;rw[Nat.mod_eq_of_lt (Nat.lt_of_le_of_lt (Nat.div_le_self _ _) (Qbk hf))] at hv;go_wp2_with fail;exact bodyPost_end (results_none rfl _ _ _) rfl ⟨rfl,o,hO,aB,hv,aC⟩
theorem QkQ {h:Nat->Nat} {n m:Nat} (hlt:nv h m<4294967296 ^ n):nv (pad h m) n=nv h m:=by
 rcases Nat.lt_or_ge n m with c|c
 ·have e:=Qcs h n m (by omega)
  have h0:hv h n m=0:=by
   rcases Nat.eq_zero_or_pos (hv h n m) with e0|e0
   ·exact e0
   ·have:=Nat.mul_le_mul_left (4294967296 ^ n) e0;omega
  rw[h0,Nat.mul_zero,Nat.add_zero] at e;rw[e];exact Qbg fun i hi=>Qdb (by omega)
 ·exact QbL _ _ _ c
theorem Qi4 (o f h:Nat->Nat) (n m c:Nat) (hc:c<=1) (ho:Wf o n) (hf:Wf f n) (hle:nv h m<=nv f n)
  (e:nv o n+nv (pad h m) n+c*1*0=nv f n+c*4294967296 ^ n):nv o n=nv f n-nv h m:=by
 have h1:=Qbk ho;have h2:=Qbk hf;rw[QkQ (by omega)] at e;rcases Nat.eq_zero_or_pos c with h0|h0
 ·subst h0;omega
 ·obtain rfl:c=1:=by omega
  omega
theorem QiD (g:Nat) (b:Option Addr) (n m ca cb:Nat) (f h:Nat->Nat) (w:World) (hn:n<=4398046511104) (hm:m<=4398046511104) (hO:Mo w g n f) (hf:Wf f n) (hwh:Wd w b m h) (hh:Wf h m)
  (hne:∀ a,b=some a->a.block≠g) (hle:nv h m<=nv f n) :
  Calls Tryz.prog 200 #[.slice (some ⟨g,0,none⟩) n ca,.slice b m cb] w fun e w'=>e=.returned (.tuple #[])/\∃ f',Mo w' g n f'/\Wf f' n/\nv f' n=nv f n-nv h m/\Only g w w':=by
 have aQ:=Qh hle;clear hle;go_enter Tryz.func200,Tryz.ntmps200
 go_wp2_with fail
 go_loopw [4,5,6] (fun s4 s _ wq=>∃ (i c:Nat) (o:Nat->Nat),i<=n/\s=.int .i64 i/\s4=.int .u64 c/\c<=1/\Mo wq g n o/\(∀ j,i<=j->o j=f j)/\Wf o n/\nv o i+nv (pad h m) i+c*1*0=nv f i+c*4294967296 ^ i/\Only g w wq)
  (fun _ s _ _=>n-(intOf s).toNat)
 case atStart=>exact⟨0,0,f,Nat.zero_le _,rfl,rfl,by omega,hO,fun _ _=>rfl,hf,rfl,Only.refl _ _⟩
 case round=>
  clear hO;obtain⟨i,c,o,hi,rfl,rfl,hc,hO,he,aE,aC,aD⟩:=hrel;have HV:=Qh aC;have HE:=Qh he;clear aC he;have i0:(0:Int)<=(i:Int):=by omega
  by_cases hlt:i<n
  ·have i1:(i:Int)<(n:Int):=by omega
   have c0:=hO.cell hlt;have c1:=hO.free i;have x0:=hf i hlt;have y0:=Qbr hh (i+1) i (by omega);rw[HE.out i (Nat.le_refl _)] at c0;have aA:=QcJ o f (pad h m) i c ((4294967296+f i-pad h m i-c)%4294967296) (1-(4294967296+f i-pad h m i-c)/4294967296) (by omega) HV.out;have HS:=Qh aA;clear aA;have aO:=Qh hwh;have aB:=hwh.only aD hne;generalize hy:pad h m i=y at *;generalize hx:f i=x at *;have hz:((4294967296+(x:Int)-(y:Int)-(c:Int))%4294967296)=(((4294967296+x-y-c)%4294967296:Nat):Int):=by omega
   have aG:1-(4294967296+(x:Int)-(y:Int)-(c:Int))/4294967296=((1-(4294967296+x-y-c)/4294967296:Nat):Int):=by omega
   have HZ:=Qh hz;have aM:=Qh aG;have aK:IntKind.u64.wrap (4294967296+(x:Int))=4294967296+(x:Int):=IntWalk.u64_in _ (by omega);have aJ:IntKind.u64.wrap (4294967296+(x:Int)-(y:Int))=4294967296+(x:Int)-(y:Int):=IntWalk.u64_in _ (by omega);have aI:IntKind.u64.wrap (4294967296+(x:Int)-(y:Int)-(c:Int))=4294967296+(x:Int)-(y:Int)-(c:Int):=IntWalk.u64_in _ (by omega);have aH:=Qh (show ∀ k,Calls Tryz.prog 129 #[.slice b m cb,.int .i64 (i:Int)] (wr.drewN k) (fun e w'=>e=.returned (.int .u64 (y:Int))/\wr.drewN k=w') from fun k=>by rw[<- hy];exact Qa8 b m cb h i _ (by omega) (by omega) (aB.drewN k) hh);clear hz aG hy hx;go_upto_region 4 with fail;go_quiet ((go_at_call 129;exact Qjz (aH.out _)))
   have aF:=aD.drewN nq;replace hO:Mo (wr.drewN nq) g n o:=hO;replace c0:(wr.drewN nq).cell? ⟨g,i,none⟩=some (.int .u32 (x:Int)):=c0;replace c1:(wr.drewN nq).frozen? ⟨g,i,none⟩=false:=c1;have aR:IntKind.u64.wrap (1-(4294967296+(x:Int)-(y:Int)-(c:Int))/4294967296)=1-(4294967296+(x:Int)-(y:Int)-(c:Int))/4294967296:=IntWalk.u64_in _ (by omega);clear aD aB aH aK aJ aI aO;generalize wr.drewN nq=wr at *;go_wp2_with fail;go_roundw
   case rel=>
    rw[HZ.out];refine⟨i+1,1-(4294967296+x-y-c)/4294967296,upd o i ((4294967296+x-y-c)%4294967296),by omega,by go_num,by rw[aM.out],by omega,hO.setw hlt _,fun j hj=>?_,fun j hj=>?_,HS.out,aF.set i _⟩
    ·rw[QaU _ _ _ _ (by omega)];exact HE.out j (by omega)
    ·by_cases e:j=i
     ·subst e;rw[QaZ];exact Nat.mod_lt _ (by decide)
     ·rw[QaU _ _ _ _ e];exact aE j hj
   case measure=>simp[intOf];omega
  ·have i1:¬ (i:Int)<(n:Int):=by omega
   have aL:i=n:=by omega
   subst aL;have hv:=Qi4 o f h i m c hc aE hf aQ.out HV.out;have aP:=Qh hv;clear hv;go_wp2_with fail;exact bodyPost_end (results_none rfl _ _ _) rfl ⟨rfl,o,hO,aE,aP.out,aD⟩
structure MuF (w:World) (x y:Int) (a b:Option Addr) (n m ca cb:Nat) (W:World):Prop where
 bl:Below w.heap.size w W
 d1:Bx W w.heap.size (.bool (decide (x<0))) (.slice a n ca)
 d2:Bx W (w.heap.size+1) (.bool (decide (y<0))) (.slice b m cb)
 d3:Bx W (w.heap.size+2) (.bool false) (.slice none 0 0)
 n3:NoW W (w.heap.size+2)
theorem MuF.up {w:World} {x y:Int} {a b:Option Addr} {n m ca cb:Nat} {W W':World} (h:MuF w x y a b n m ca cb W) (hb:Below W.heap.size W W'):MuF w x y a b n m ca cb W':=
 ⟨Bl.up h.bl hb,h.d1.up hb,h.d2.up hb,h.d3.up hb,h.n3.up h.d3.lt hb⟩
theorem MuF.drewN {w:World} {x y:Int} {a b:Option Addr} {n m ca cb:Nat} {W:World} (h:MuF w x y a b n m ca cb W) (k:Nat):MuF w x y a b n m ca cb (W.drewN k):=
 ⟨Below.drewN h.bl k,h.d1.drewN k,h.d2.drewN k,h.d3.drewN k,h.n3.drewN k⟩
theorem MuF.set {w:World} {x y:Int} {a b:Option Addr} {n m ca cb:Nat} {W:World} (h:MuF w x y a b n m ca cb W) {g:Nat} (hg:w.heap.size+3<=g) (i:Nat) (v:Value):MuF w x y a b n m ca cb (W.setCell ⟨g,i,none⟩ v):=
 ⟨h.bl.setCell (by show w.heap.size<=g;omega) _,h.d1.other (by omega) _ _,h.d2.other (by omega) _ _,h.d3.other (by omega) _ _,fun o u e=>by
  rw[World.cell?_setCell_other _ _ _ _ (by intro hh;injection hh with h1;omega)] at e;exact h.n3 o u e⟩
theorem Qk1 (z:Int) (k:Nat) (hz:z=k) (hk:k<=4398046511104) (w:World) :
  (Instr.makeSlice 26 (.int .i64 z) (.int .i64 z)).run Tryz.prog w=.ok (.slice (some ⟨w.heap.size,0,none⟩) k k) (w.alloc (.cells (madeCells #[.int .u32 0] k) 139)):=by
 subst hz;obtain⟨i0,hi,aC,aB,aA⟩:=info_parts Qgr;have h:=run_make (P:=Tryz.prog) w 26 139 i0 (.int .u32 0) Tryz.underlying26 hi aC .i64 .i64 (k:Int) (k:Int) (by omega) (Int.le_refl _) (by rw[aA];omega) (by omega);simpa [aB,Value.cells] using h
theorem QgU (x y:Int) (a b:Option Addr) (n m ca cb:Nat) (f g:Nat->Nat) (w:World) (hn:n<=1099511627776) (hm:m<=1099511627776) (hwf:Wd w a n f) (hwg:Wd w b m g) (hf:Wf f n) (hg:Wf g m) :
  Calls Tryz.prog 33 #[.agg #[.bool (decide (x<0)),.slice a n ca],.agg #[.bool (decide (y<0)),.slice b m cb]] w fun e w'=>∃ v,e=.returned v/\It w' v (sg (!(decide (x<0) == decide (y<0))) (nv f n*nv g m))/\Below w.heap.size w w':=by
 obtain⟨W,hW,hw,d1,d2,d3,n1,n2,n3,hz⟩:=Qbn w (decide (x<0)) (decide (y<0)) a b n m ca cb 33;have F:MuF w x y a b n m ca cb W:=⟨hw,d1,d2,d3,n3⟩;have a6:=Qk1 ((n:Int)+(m:Int)) (n+m) (by omega) (by omega);have HZ:=Qh hz;clear hz hw d1 d2 d3 n1 n2 n3;have p2:=F.d1.c1;have q2:=F.d2.c1;go_enter Tryz.func33,Tryz.ntmps33
 go_wp2_with fail;rw[<- hW];clear hW p2 q2;replace F:=F.up (Qc W (.cells (madeCells #[.int .u32 0] (n+m)) 139));have hO:=Own.zeros W 139 (n+m);rw[HZ.out] at hO;have hO:Own (W.alloc (.cells (madeCells #[.int .u32 0] (n+m)) 139)) (w.heap.size+1+1+1) 139 (n+m) (wv fun _=>0):=hO;generalize W.alloc (.cells (madeCells #[.int .u32 0] (n+m)) 139)=W1 at *
 go_loopw [6,7,8] (fun s _ _ wr=>∃ (i:Nat) (o:Nat->Nat),i<=n/\s=.int .i64 i/\Own wr (w.heap.size+1+1+1) 139 (n+m) (wv o)/\Wf o (n+m)/\nv o (i+m)=nv f i*nv g m/\MuF w x y a b n m ca cb wr)
  (fun s _ _ _=>n-(intOf s).toNat)
 case atStart=>
  refine⟨0,fun _=>0,Nat.zero_le _,rfl,hO,fun _ _=>Nat.zero_lt_succ _,?_,F⟩;rw[QbR (fun _ _=>rfl)];simp[nv]
 case round=>
  obtain⟨i,o,hi,rfl,aE,aP,aC,F⟩:=hrel;have HV:=Qh aC;clear aC;have p2:=F.d1.c1;have q2:=F.d2.c1;have i0:(0:Int)<=(i:Int):=by omega
  by_cases hlt:i<n
  ·obtain⟨ba,aF,rfl,a0,aM⟩:=hwf.at hlt;have aU:=hf i hlt;have i1:(i:Int)<(n:Int):=by omega
   go_wp2_with fail;obtain⟨wo,aB⟩:∃ wo,wo=wr:=⟨_,rfl⟩;rw[<- aB] at F aE p2 q2 |-;clear aB
   go_loopw [7,8] (fun c s wq=>∃ (k cn:Nat) (o':Nat->Nat),k<=m/\s=.int .i64 k/\c=.int .u64 cn/\cn<4294967296/\Own wq (w.heap.size+1+1+1) 139 (n+m) (wv o')/\Wf o' (n+m) /\
     nv o' (i+m)+cn*4294967296 ^ (i+k)=nv o (i+m)+f i*nv g k*4294967296 ^ i/\MuF w x y (some ⟨ba,aF,none⟩) b n m ca cb wq)
    (fun _ s _=>m-(intOf s).toNat)
   case atStart=>exact⟨0,0,o,Nat.zero_le _,rfl,rfl,by decide,aE,aP,by simp[nv],F⟩
   case round=>
    obtain⟨k,cn,o',hk,rfl,rfl,aL,aA,aB,aQ,F'⟩:=hrel;have aW:=Qh aQ;clear aQ p2 q2;have p2:=F'.d1.c1;have q2:=F'.d2.c1;have k0:(0:Int)<=(k:Int):=by omega
    by_cases hkm:k<m
    ·obtain⟨bb,aI,rfl,aZ,aG⟩:=hwg.at hkm;have a8:=(F'.bl.cell (p:=⟨ba,aF+i,none⟩) a0).trans (aM i hlt);have a7:=(F'.bl.cell (p:=⟨bb,aI+k,none⟩) aZ).trans (aG k hkm);have aH:=aA.cell (i:=i+k) (by omega);have aK:=aA.free (i+k);have aT:=hg k hkm;have aS:=aB (i+k) (by omega);have aY:=Qb4 (f i) (g k) (o' (i+k)) cn aU aT aS aL;have aO:cn+(f i*g k+o' (i+k))<18446744073709551616:=by omega
     have k1:(k:Int)<(m:Int):=by omega
     unfold wv at aH;clear aG;have aD:=QfF o o' f g i k m cn hkm aW.out;have a3:=Qh aD;clear aD;generalize hfx:f i=X at *;generalize hgx:g k=Y at *;generalize hox:o' (i+k)=Z at *;have bB:=Qh hfx;have bA:=Qh hgx;have a9:=Qh hox;clear hfx hgx hox;have a5:(0:Int)<=(X:Int)*(Y:Int):=by rw[<- Int.natCast_mul];omega
     have aR:(X:Int)*(Y:Int)=((X*Y:Nat):Int):=by rw[Int.natCast_mul]
     have wx:IntKind.u64.wrap (X:Int)=(X:Int):=IntWalk.u64_in _ (by omega);have wy:IntKind.u64.wrap (Y:Int)=(Y:Int):=IntWalk.u64_in _ (by omega);have wz:IntKind.u64.wrap (Z:Int)=(Z:Int):=IntWalk.u64_in _ (by omega);have w1:IntKind.u64.wrap ((X:Int)*(Y:Int))=(X:Int)*(Y:Int):=IntWalk.u64_in _ (by omega);have w2:IntKind.u64.wrap ((X:Int)*(Y:Int)+(Z:Int))=(X:Int)*(Y:Int)+(Z:Int):=IntWalk.u64_in _ (by omega);have w3:IntKind.u64.wrap ((cn:Int)+((X:Int)*(Y:Int)+(Z:Int)))=(cn:Int)+((X:Int)*(Y:Int)+(Z:Int)):=IntWalk.u64_in _ (by omega);have s1:IntKind.i64.wrap ((i:Int)+(k:Int))=(i:Int)+(k:Int):=IntWalk.i64_in _ (by omega);have s2:(0:Int)<=(i:Int)+(k:Int):=by omega
     have s3:(i:Int)+(k:Int)<((n+m:Nat):Int):=by omega
     have s5:(i:Int)+(k:Int)<(n:Int)+(m:Int):=by omega
     have s4:((i:Int)+(k:Int)).toNat=i+k:=by omega
     have a4:=Qh aR;clear aR aY aO;go_upto_region 9 with fail;go_quiet (fail)
     clear wx wy wz w1 w2 w3;replace F':=F'.drewN nq;replace aA:Own (wr.drewN nq) (w.heap.size+1+1+1) 139 (n+m) (wv o'):=aA;replace aK:(wr.drewN nq).frozen? ⟨w.heap.size+1+1+1,i+k,none⟩=false:=aK;replace aH:(wr.drewN nq).cell? ⟨w.heap.size+1+1+1,i+k,none⟩=some (.int .u32 (Z:Int)):=aH;generalize wr.drewN nq=W2 at *;have aC:(cn:Int)+((X:Int)*(Y:Int)+(Z:Int))=((X*Y+Z+cn:Nat):Int):=by rw[a4.out];omega
     rw[aC];have hT:X*Y+Z+cn<18446744073709551616:=Qb4 X Y Z cn aU aT aS aL;generalize X*Y+Z+cn=T at *;clear aC s1 s2 s3 s4 s5;go_wp2_with fail;go_roundw
     case rel=>
      exact⟨k+1,T/4294967296,upd o' (i+k) (T%4294967296),by omega,by go_num,by go_num,by omega,aA.setw (by omega) _,aB.upd _ _ (by omega),a3.out,F'.set (by omega) _ _⟩
     case measure=>simp[intOf];omega
    ·have aJ:k=m:=by omega
     subst aJ;have aH:=aA.cell (i:=i+k) (by omega);have aK:=aA.free (i+k);have k1:¬ (k:Int)<(k:Int):=by omega
     unfold wv at aH;have aV:(cn:Int)%4294967296=(cn:Int):=by omega
     have bC:=Qh aV;clear aV hkm;go_wp2_with fail;go_roundw
     case rel=>
      refine⟨i+1,upd o' (i+k) cn,by omega,by go_num,?_,aB.upd _ _ aL,?_,F'.set (by omega) _ _⟩
      ·exact aA.setw (i:=i+k) (by omega) cn
      ·exact Qej o' f g i k cn (by rw[aW.out,HV.out])
     case measure=>simp[intOf];omega
  ·have aX:i=n:=by omega
   subst aX;have i1:¬ (i:Int)<(i:Int):=by omega
   have p1:=F.d1.c0;have q1:=F.d2.c0;have u0:=F.d3.c0;have u1:=F.d3.c1;have u2:=F.d3.f0;have u3:=F.d3.f1;clear hlt;go_wp2_with fail;refine(Qbu (!(decide (x<0) == decide (y<0))) _ (i+m) (i+m) o _ (Nat.le_refl _) (by omega) aE.wd aP).mono ?_;rintro e w2 ⟨v,rfl,hv,hb⟩;rw[HV.out] at hv;obtain⟨s',a2,n2,a1,rfl⟩:=hv.shape;clear p1 q1 p2 q2 u0 u1 u2 u3;replace F:=F.up hb;have u0:=F.d3.c0;have u1:=F.d3.c1;have u2:=F.d3.f0;have u3:=F.d3.f1;go_wp2_with fail;exact Qbt (B:=w.heap.size+2) rfl rfl rfl (F.d3.put _ _) ⟨_,rfl,hv.put F.n3 _ _ _ _,(F.bl.setCell (by show w.heap.size<=w.heap.size+2;omega) _).setCell (by show w.heap.size<=w.heap.size+2;omega) _⟩
theorem QdJ (va vb:Value) (x y:Int) (w:World) (hx:It w va x) (hy:It w vb y) (hsx:sz x<=1099511627776) (hsy:sz y<=1099511627776) :
  Calls Tryz.prog 33 #[va,vb] w fun e w'=>∃ v,e=.returned v/\It w' v (x*y)/\Below w.heap.size w w':=by
 obtain⟨a,ca,f,rfl,h1,h2,h3,h4,h5⟩:=hx.parts;obtain⟨b,cb,g,rfl,k1,k2,k3,k4,k5⟩:=hy.parts;have H5:=Qh h5;have K5:=Qh k5;clear h5 k5;refine(QgU x y a b (sz x) (sz y) ca cb f g w hsx hsy h2 k2 h3 k3).mono ?_;rintro e w' ⟨v,he,hv,aA⟩;rw[Qjn x y f g _ _ H5.out K5.out] at hv;exact⟨v,he,hv,aA⟩
theorem Aw.zeros (w:World) {base:Nat} (q:Nat) (hb:base<=w.heap.size) (hq:q<=4398046511104):Aw (w.alloc (.cells (madeCells #[.int .u32 0] q) 139)) base (.slice (some ⟨w.heap.size,0,none⟩) q q) q (fun _=>0):=by
 have h:=World.ownsRow_lit (base:=base) (e:=139) (size:=1) w (madeCells #[.int .u32 0] q) q hb (by unfold maxLen;omega) (by simp[madeCells]);unfold Aw
 have e:(madeCells #[.int .u32 0] q).toList=lst q (wv fun _=>0):=by
  apply List.ext_getElem?
  intro i;by_cases hi:i<q
  ·rw[Yw _ _ _ hi];simp[madeCells,hi,Nat.mod_one,wv]
  ·simp[madeCells,lst,hi]
 rw[<- e];exact h
def Qfv (f:Nat->Nat) (n i:Nat):Nat:=if i=0 then 0 else pad f n (i-1)
theorem Qhk {f:Nat->Nat} {n:Nat} (hf:Wf f n) (i:Nat):Qfv f n i<4294967296:=by
 unfold Qfv;split
 ·decide
 ·exact Qbr hf (i+1) (i-1) (by omega)
theorem Qc7 (f:Nat->Nat) (n i:Nat):Qfv f n (i+1)=pad f n i:=by unfold Qfv;rw[if_neg (by omega)];rfl
theorem Qhq (a:Option Addr) (n cap:Nat) (f:Nat->Nat) (i:Nat) (w:World) (hn:n<=4611686018427387904) (hi:i<=4611686018427387904) (hw:Wd w a n f) (hf:Wf f n) :
  Calls Tryz.prog 129 #[.slice a n cap,.int .i64 ((i:Int)-1)] w fun e w'=>e=.returned (.int .u64 (Qfv f n i:Int))/\w=w':=by
 rcases i with _|i
 ·exact Qkl a n cap w
 ·rw[Qc7,show ((i+1:Nat):Int)-1=(i:Int) by omega];exact Qa8 a n cap f i w hn (by omega) hw hf
theorem Qi8 (a:Option Addr) (n ca s:Nat) (f:Nat->Nat) (w:World) (hn:n<=1099511627776) (hs:s<=70368744177664) (hwf:Wd w a n f) (hf:Wf f n) :
  Calls Tryz.prog 81 #[.slice a n ca,.int .i64 (s:Int)] w fun e w'=>∃ g L cap f',e=.returned (.slice (some ⟨g,0,none⟩) L cap)/\L<=cap/\w.heap.size<=g/\Mo w' g L f'/\Wf f' L/\L=s/32+n+1/\nv f' L=nv f n*2 ^ s/\Below w.heap.size w w':=by
 obtain⟨q,hq⟩:∃ q,q=s/32:=⟨_,rfl⟩;obtain⟨k,hk⟩:∃ k,k=s%32:=⟨_,rfl⟩;have aC:k<32:=by omega
 have aF:q<=4398046511104:=by omega
 have hp:2 ^ s=2 ^ k*4294967296 ^ q:=by
  rw[show s=k+32*q by omega,Nat.pow_add,Nat.pow_mul]
 have HP:=Qh hp;have e1:(s:Int)/32=(q:Int):=by omega
 have e2:(s:Int)%32=(k:Int):=by omega
 have s0:(0:Int)<=(s:Int):=by omega
 have aL:=Qk1 ((s:Int)/32) q e1 aF;have wk:IntKind.u64.wrap ((s:Int)%32)=(s:Int)%32:=IntWalk.u64_in _ (by omega);rw[<- hq];have E1:=Qh e1;have E2:=Qh e2;clear hp hq hk e1 e2;go_enter Tryz.func81,Tryz.ntmps81
 go_upto_region 3 with fail;clear aL wk;rw[E1.out,E2.out];have aI:=Aw.zeros w q (Nat.le_refl _) aF;have aH:=Qc w (.cells (madeCells #[.int .u32 0] q) 139);generalize w.alloc (.cells (madeCells #[.int .u32 0] q) 139)=W0 at *;go_wp2_with fail
 go_loopw [5,7] (fun s5 s7 wq=>∃ (i c:Nat) (u:Value) (o:Nat->Nat),i<=n+1/\s7=.int .i64 i/\s5=u/\c=Qfv f n i*2 ^ k/4294967296/\Aw wq w.heap.size u (q+i) o/\Wf o (q+i)/\nv o (q+i)+c*4294967296 ^ (q+i)=nv (pad f n) i*(2 ^ k*4294967296 ^ q)/\Below w.heap.size w wq)
  (fun _ s7 _=>n+1-(intOf s7).toNat)
 case atStart=>exact⟨0,0,_,fun _=>0,Nat.zero_le _,rfl,rfl,by simp[Qfv],aI,fun _ _=>Nat.zero_lt_succ _,by rw[QbR (fun _ _=>rfl)];simp[nv],aH⟩
 case round=>
  clear aI aH;obtain⟨i,c,u,o,hi,rfl,rfl,hc,hA,aE,aB,aD⟩:=hrel;have HV:=Qh aB;clear aB;have i0:(0:Int)<=(i:Int):=by omega
  by_cases hlt:i<n+1
  ·have i1:(i:Int)<=(n:Int):=by omega
   have hx:=Qbr hf (i+1) i (by omega);have aM:0<2 ^ k:=Nat.pow_pos (by decide);have aP:c<2 ^ k:=by rw[hc];exact(Qex (Qfv f n i) 0 k (Qhk hf i) aM aC).2.2
   obtain⟨w1,aK,-⟩:=Qex (pad f n i) c k hx aP aC;go_upto_region 6 with fail;go_wp2_with fail;refine(Qa8 a n ca f i _ (by omega) (by omega) (hwf.up aD) hf).mono ?_;rintro e w2 ⟨rfl,rfl⟩;go_wp2_with fail;refine(Qhq a n ca f i _ (by omega) (by omega) (hwf.up aD) hf).mono ?_;rintro e w2 ⟨rfl,rfl⟩;have aJ:2 ^ k<=2147483648:=Nat.pow_le_pow_right (n:=2) (by decide) (show k<=31 by omega);have aS:pad f n i*2 ^ k<=4294967295*2147483648:=Nat.mul_le_mul (by omega) aJ;have aX:=Qhk hf i;have aR:Qfv f n i*2 ^ k<=4294967295*2147483648:=Nat.mul_le_mul (by omega) aJ
   have z1:IntKind.u64.wrap ((pad f n i:Int)*2 ^ k)=((pad f n i*2 ^ k:Nat):Int):=by
    rw[show (pad f n i:Int)*2 ^ k=((pad f n i*2 ^ k:Nat):Int) by simp];exact IntWalk.u64_in _ (by omega)
   have z2:IntKind.u64.wrap ((Qfv f n i:Int)*2 ^ k)/4294967296=(c:Int):=by
    rw[show (Qfv f n i:Int)*2 ^ k=((Qfv f n i*2 ^ k:Nat):Int) by simp,IntWalk.u64_in _ (by omega),hc];omega
   have hz:bits BinOp.or IntKind.u64 (IntKind.u64.wrap ((pad f n i:Int)*2 ^ k)) (IntKind.u64.wrap ((Qfv f n i:Int)*2 ^ k)/4294967296)%4294967296=((pad f n i*2 ^ k%4294967296+c:Nat):Int):=by
    rw[z1,z2];exact w1
   have HZ:=Qh hz;have aA:=Qg1 o (nv (pad f n) i) c (q+i) i (2 ^ k*4294967296 ^ q) (pad f n i) k (by rw[Nat.pow_add,Nat.mul_assoc]) HV.out;have HS:=Qh aA;have aG:=Qc7 f n i;have aV:=Qh aG;clear aA z1 z2 hz w1 aS aR aG hc;rw[show q+i+1=q+(i+1) by omega] at HS;generalize Qfv f n i=y at *;generalize hX:pad f n i=x at *;rw[show nv (pad f n) i+x*4294967296 ^ i=nv (pad f n) (i+1) by rw[<- hX];rfl] at HS;clear hX;generalize hc':x*2 ^ k/4294967296=c' at *;generalize x*2 ^ k%4294967296+c=r at *;have aW:=aD.size;go_wp2_with (at_builtin;go_must (refine Qd4 rfl (.tmp 20) (.tmp 35) _ rfl Tryz.underlying26 w.heap.size _ (q+i) o rfl (hA.alloc _) (by simp;omega) wr.heap.size 139 _ (0,0) r rfl (by rw[<- HZ.out];exact Zk1 _ _) (by omega) ?_);intro v' w4 aT aQ)
   go_roundw
   case rel=>
    refine⟨i+1,c',_,_,by omega,by go_num,rfl,by rw[aV.out,hc'],aT,fun j hj=>?_,HS.out,(Bl.alloc aD _).trans aQ⟩;by_cases e:j=q+i
    ·subst e;rw[QaZ];exact aK
    ·rw[QaU _ _ _ _ e];exact aE j (by omega)
   case measure=>simp[intOf];omega
  ·have i1:¬ (i:Int)<=(n:Int):=by omega
   have aO:i=n+1:=by omega
   subst aO;have hv:=HV.out;rw[QbL f n _ (Nat.le_succ _),Qc7,Qdo (Nat.le_refl _),Nat.zero_mul,Nat.zero_div] at *;subst hc;rw[Nat.zero_mul,Nat.add_zero,<- HP.out] at hv;obtain⟨g,cap,rfl,h1,h2,h3⟩:=hA.own (by omega);have aU:=Qh hv;clear hv HV hA;go_wp2_with fail;go_ret
   exact⟨g,_,cap,rfl,h1,h2,o,h3,aE,rfl,aU.out,aD⟩
theorem QfN (v:Value) (x:Int) (w:World) (hx:It w v x) (hs:sz x<=1099511627776) :
  Calls Tryz.prog 82 #[v] w fun e w'=>∃ b:Nat,e=.returned (.int .i64 (b:Int))/\x.natAbs<2 ^ b/\(0<b->2 ^ (b-1)<=x.natAbs)/\b<=32*sz x/\Below w.heap.size w w':=by
 obtain⟨a,aF,f,rfl,h1,h2,h3,h4,h5⟩:=hx.parts;have H5:=Qh h5;clear h5 hx;by_cases h0:sz x=0
 ·have aH:x=0:=QbF.1 h0;rw[h0];go_enter Tryz.func82,Tryz.ntmps82
  go_wp2_with fail;go_ret
  exact⟨0,rfl,by rw[aH];decide,fun h=>absurd h (by decide),Nat.le_refl _,Qc _ _⟩
 ·generalize hn:sz x=n at *;clear hn;have aS:((n:Int) == 0)=false:=by rw[beq_eq_false_iff_ne];omega
  obtain⟨b,aD,rfl,hb,hc⟩:=h2.at (i:=n-1) (by omega);have c0:=hc (n-1) (by omega);have ht:=h3 (n-1) (by omega)
  have aR:f (n-1)≠0:=by
   rcases h4 with c|c
   ·omega
   ·exact c
  have aC:=fun j=>QiA (f:=f) (n:=n) (j:=j) (by omega) h3;rw[H5.out] at aC;have aQ:=Qh aC;clear aC hc h4 h2;generalize f (n-1)=t at *;generalize hN:n-1=N at *;have aE:n=N+1:=by omega
  clear hN;have aG:=Qh aE;have e1:(n:Int)-1=(N:Int):=by omega
  have e2:IntKind.i64.wrap ((n:Int)-1)=(N:Int):=by rw[e1];exact IntWalk.i64_in _ (by omega)
  have e3:IntKind.i64.wrap (32*(N:Int))=((32*N:Nat):Int):=by rw[IntWalk.i64_in _ (by omega)];omega
  have e4:(0:Int)<=(N:Int):=by omega
  have e5:(N:Int)<(n:Int):=by omega
  clear aE e1;go_enter Tryz.func82,Tryz.ntmps82
  have aM:=Qc w (.cells #[.bool (decide (x<0)),.slice (some ⟨b,aD,none⟩) n aF] 33);go_upto_region 5 with fail;clear e2 e3 e4 e5;generalize w.alloc (.cells #[.bool (decide (x<0)),.slice (some ⟨b,aD,none⟩) n aF] 33)=W0 at *
  go_loopw [3,4] (fun s3 s4 wq=>∃ j:Nat,s3=.int .i64 ((32*N+j:Nat):Int)/\s4=.int .u32 ((t/2 ^ j:Nat):Int)/\(0<j->2 ^ (j-1)<=t)/\W0=wq)
   (fun _ s4 _=>(intOf s4).toNat)
  case atStart=>exact⟨0,by go_num,by simp,fun h=>absurd h (by decide),rfl⟩
  case round=>
   obtain⟨j,rfl,rfl,hj,rfl⟩:=hrel;have HJ:=Qh hj;clear hj
   have aK:j<=32:=by
    rcases Nat.lt_or_ge 32 j with c|c
    ·have h1:=HJ.out (by omega);have h2:2 ^ 32<=2 ^ (j-1):=Nat.pow_le_pow_right (by omega) (by omega);omega
    ·exact c
   have aO:=aG.out;by_cases hz:t/2 ^ j=0
   ·have aA:t<2 ^ j:=by
     rcases Nat.lt_or_ge t (2 ^ j) with c|c
     ·exact c
     ·have:=Nat.div_pos c (Nat.pow_pos (by decide));omega
    have aL:0<j:=by
     rcases Nat.eq_zero_or_pos j with c|c
     ·subst c;simp at aA;omega
     ·exact c
    have hB:=aQ.out (j-1) (HJ.out aL) (by rw[show j-1+1=j by omega];exact aA);rw[show j-1+1=j by omega,show 32*N+(j-1)=32*N+j-1 by omega] at hB;have HB:=Qh hB;rw[hz];clear hB aA aO;go_wp2_with fail;go_ret
    exact⟨32*N+j,rfl,HB.out.2,fun _=>HB.out.1,by have:=aG.out;omega,aM⟩
   ·have aI:(0:Int)<((t/2 ^ j:Nat):Int):=Int.ofNat_lt.2 (Nat.pos_of_ne_zero hz)
    have aA:2 ^ j<=t:=by
     rcases Nat.lt_or_ge t (2 ^ j) with c|c
     ·exact absurd (Nat.div_eq_of_lt c) hz
     ·exact c
    have hd:((t/2 ^ j:Nat):Int)/2=((t/2 ^ (j+1):Nat):Int):=by
     rw[Nat.pow_succ,<- Nat.div_div_eq_div_mul];omega
    have HD:=Qh hd
    have aT:t/2 ^ (j+1)<t/2 ^ j:=by
     rw[Nat.pow_succ,<- Nat.div_div_eq_div_mul];omega
    have aP:=Qh aA;have aJ:t/2 ^ (j+1)<4294967296:=Nat.lt_of_le_of_lt (Nat.div_le_self _ _) ht
    have aB:((t/2 ^ (j+1):Nat):Int)%4294967296=((t/2 ^ (j+1):Nat):Int):=by
     generalize t/2 ^ (j+1)=v at *;omega
    have HM:=Qh aB;clear hd aA aB;generalize t/2 ^ j=u at *;go_wp2_with fail;go_roundw
    case rel=>exact⟨j+1,by go_num,by rw[HD.out,HM.out],fun _=>aP.out,by first|rfl|trivial⟩
    case measure=>
     rw[HD.out,HM.out];generalize t/2 ^ (j+1)=v at *;show ((v:Int)).toNat<((u:Int)).toNat
     omega
theorem QeK {w:World} (t ty:TypeId) (ht:Tryz.prog.underlying t=some (.slice 139)) (g c:Nat) :
  (Builtin.append_ #[t,t] ty #[.slice (some ⟨g,0,none⟩) 0 0,.slice none 0 c]).run Tryz.prog w=.ok (.slice (some ⟨g,0,none⟩) 0 0) w:=by
 obtain⟨i0,hi,aC,aB,aA⟩:=info_parts Qgr;simp[Builtin.append_,run_underlying ht,Builtin.lenOf,Builtin.firstCells,sizeOf,typeInfo,hi,storeCells]
theorem QiW {ops:Array Oper} {rest:List Oper} {o:Oper} {a:Act} {Q:Exit->Act->World->Prop} {w:World} (hgd:o.guard=none) (su sx:Operand) (t:TypeId)
  (ho:o.op=.call { callee:=.builtin .append,args:=#[su,sx],argTypes:=#[t,t] }) (ht:Tryz.prog.underlying t=some (.slice 139)) (base g0:Nat) (hs:a.eval su=.slice (some ⟨g0,0,none⟩) 0 0) (f f0:Nat->Nat)
  (h:Aw w base (.slice (some ⟨g0,0,none⟩) 0 0) 0 f0) (hbase:base<=w.heap.size) (b:Option Addr) (n c1:Nat) (hxv:a.eval sx=.slice b n c1) (hW:Wd w b n f) (hl:n<=17592186044416)
  (hK:∀ v' w',Aw w' base v' n f->Below base w w'->wpList Tryz.prog ops Q rest (a.put o.dst v') w') :
  wpList Tryz.prog ops Q (o :: rest) a w:=by
 obtain⟨i0,hi,aD,aC,aB⟩:=info_parts Qgr;have aF:=World.ownsRow.lt h;have h0:Aw w base (.slice (some ⟨g0,0,none⟩) 0 0) 0 f:=h
 cases b with
 | none =>
   have hn:n=0:=by
    rcases hW with h|⟨_,_,e,_⟩
    ·exact h
    ·cases e
   subst hn;refine wpList_plain hgd fun K hK'=>?_;unfold Oper.wp execOp;simp only[ho,resolve,invoke,builtin,Sem.run_bind,Sem.run_pure,Result.andThen_ok,List.map_toArray,List.map_cons,List.map_nil,hs,hxv,QeK t o.type ht];exact hK' _ _ (hK _ _ h0 ⟨rfl,rfl,rfl,Nat.le_refl _,fun _ _=>rfl⟩)
 | some ad =>
   refine wpList_append_own_at w hgd su sx t ho base 139 i0 _ 1 4 ht hi aD aC aB rfl (by omega) _ 0 (lst 0 (wv f)) hs h0 ad n c1 (lst n (wv f)) hxv (by rw[Qbp,Nat.mul_one]) (fun j u hu=>?_) (fun u hu=>?_) (by unfold maxLen;omega) (by omega) hbase fun v' w' h2 h3 _ _=>hK v' w' ?_ (Below.of_grown h3 hbase (fun k hk=>(aF k hk).1))
   ·obtain⟨hj,rfl⟩:=Qf3 hu;obtain⟨bb,aA,e,hb,hc⟩:=hW.at hj;have e':ad=⟨bb,aA,none⟩:=Option.some.inj e;rw[e',Qfx];exact hc j hj
   ·have aE:u∈(List.range n).map (wv f):=hu;obtain⟨j,_,e⟩:=List.mem_map.1 aE;rw[<- e];rfl
   ·have e0:lst 0 (wv f)=[]:=rfl;rw[Nat.zero_add,e0,List.nil_append] at h2;exact h2
theorem QgQ {f:Nat->Nat} {i x:Nat}:∀ {n:Nat},i<n->nv (upd f i x) n+f i*4294967296 ^ i=nv f n+x*4294967296 ^ i
 | 0,h=>absurd h (Nat.not_lt_zero _)
 | n + 1, h => by
   simp only[nv];rcases Nat.eq_or_lt_of_le (Nat.le_of_lt_succ h) with e|e
   ·subst e;rw[QbN _ _ _ (Nat.le_refl _),QaZ];omega
   ·have:=QgQ (f:=f) (x:=x) e;rw[QaU _ _ _ _ (by omega)];omega
theorem QiS {f:Nat->Nat} {L i:Nat} (hf:Wf f L) (hi:i/32<L) (hd:2 ^ (i+1)∣nv f L) :
  bits BinOp.or IntKind.u32 (f (i/32):Int) ((2 ^ (i%32):Nat):Int)=((f (i/32)+2 ^ (i%32):Nat):Int)/\f (i/32)+2 ^ (i%32)<4294967296 /\
  nv (upd f (i/32) (f (i/32)+2 ^ (i%32))) L=nv f L+2 ^ i:=by
 have e0:(4294967296:Nat) ^ (i/32)=2 ^ (32*(i/32)):=by rw[Nat.pow_mul]
 have e1:i=32*(i/32)+i%32:=by omega
 have aD:=hf (i/32) hi;have aB:=Qcs f (i/32) L (by omega);rw[Qcy f (i/32) L hi] at aB;have h1:=Qbk (hf.mono (m:=i/32) (by omega))
 have aF:2 ^ (i%32+1)∣f (i/32):=by
  have e2:2 ^ (i+1)=4294967296 ^ (i/32)*2 ^ (i%32+1):=by
   rw[e0,<- Nat.pow_add];congr 1;omega
  rw[e2] at hd
  have hz:nv f (i/32)=0:=by
   have h2:4294967296 ^ (i/32)∣nv f L:=Nat.dvd_trans (Nat.dvd_mul_right _ _) hd;rw[aB] at h2;have h3:4294967296 ^ (i/32)∣nv f (i/32):=(Nat.dvd_add_iff_left (Nat.dvd_mul_right _ _)).2 h2;exact Nat.eq_zero_of_dvd_of_lt h3 h1
  rw[aB,hz,Nat.zero_add] at hd;have h4:=Nat.dvd_of_mul_dvd_mul_left (QdE _) hd;refine(Nat.dvd_add_iff_left ?_).2 h4;refine Nat.dvd_trans ?_ (Nat.dvd_mul_right _ _);rw[show (4294967296:Nat)=2 ^ 32 by decide];exact Nat.pow_dvd_pow _ (by omega)
 obtain⟨z,hz⟩:=aF;have hp:2 ^ (i%32)<2 ^ (i%32+1):=Nat.pow_lt_pow_right (by decide) (by omega);have aA:2 ^ (i%32)<4294967296:=Nat.lt_of_lt_of_le (Nat.pow_lt_pow_right (by decide) (show i%32<32 by omega)) (by decide);have aC:f (i/32) ||| 2 ^ (i%32)=f (i/32)+2 ^ (i%32):=by rw[hz,<- Nat.two_pow_add_eq_or_of_lt hp]
 have aE:f (i/32) ||| 2 ^ (i%32)<2 ^ 32:=Nat.or_lt_two_pow aD aA
 refine⟨?_,by rw[<- aC];exact aE,?_⟩
 ·rw[u32_or_nat _ _ aD aA,aC]
 ·have:=QgQ (f:=f) (x:=f (i/32)+2 ^ (i%32)) hi;rw[Nat.add_mul] at this
  have e3:2 ^ (i%32)*4294967296 ^ (i/32)=2 ^ i:=by
   rw[e0,<- Nat.pow_add];congr 1;omega
  omega
theorem Qkw (w:World) (B o:Nat) (a b:Option Addr) (n m c d:Nat) (h0:w.cell? ⟨B,o,none⟩=some (.slice a n c)) (h1:w.cell? ⟨B,o+1,none⟩=some (.slice b m d)) :
  (loadVar 222 ⟨B,o,none⟩).run Tryz.prog w=.ok (.agg #[.slice a n c,.slice b m d]) w:=by
 simp[go_sem,h0,h1]
theorem Qig {fn:Func} {R:Ending->World->Prop} {t:Tmp} {a:Act} {w:World} {B:Nat} {a1 a2:Option Addr} {n1 n2 c1 c2:Nat} (hr:fn.results = #[.cell t 222]) (ht:a.tmps.getD t undef=.pointer (some ⟨B,0,none⟩)) (hd:a.defers=[])
  (h:Bx w B (.slice a1 n1 c1) (.slice a2 n2 c2)) (hR:R (.returned (.agg #[.slice a1 n1 c1,.slice a2 n2 c2])) w):bodyPost Tryz.prog fn R .ret a w:=by
 refine bodyPost_ret ?_ hd hR;have hl:=Qkw w B 0 _ _ _ _ _ _ h.c0 h.c1;have aA:a.tmps[t]?.getD undef=.pointer (some ⟨B,0,none⟩):=by simpa using ht
 have hA:(asAddr (.pointer (some ⟨B,0,none⟩))).run Tryz.prog w=.ok ⟨B,0,none⟩ w:=rfl;simp[results,hr,aA,hl,hA]
theorem QhY (lo hi:Nat) (h1:lo<4294967296) (h2:hi<4294967296):bits BinOp.or IntKind.u64 (lo:Int) ((hi:Int)*4294967296)=((lo+4294967296*hi:Nat):Int):=by
 have e:(hi:Int)*4294967296=((2 ^ 32*hi:Nat):Int):=by omega
 rw[e,u64_or_nat _ _ (by omega) (by omega),Nat.or_comm,<- Nat.two_pow_add_eq_or_of_lt (show lo<2 ^ 32 by omega)];omega
theorem QjB (f:Nat->Nat) (n:Nat) (hn:n<=2):nv f n=pad f n 0+4294967296*pad f n 1:=by
 rw[<- QbL f n 2 hn];simp[nv];omega
theorem QjE (W:World) (T B v:Nat) (z0 z1:Int) (h0:z0=((v%4294967296:Nat):Int)) (h1:z1=((v/4294967296:Nat):Int)) (hB:B=W.heap.size) (hT:T=139) (hv:v<18446744073709551616) :
  Pl (W.alloc (.cells #[.int .u32 z0,.int .u32 z1] T)) (.slice (some ⟨B,0,none⟩) 2 2) 2199023255552 v:=by
 subst h0 h1 hB hT;refine⟨_,2,2,fun i=>if i=0 then v%4294967296 else v/4294967296,rfl,Nat.le_refl _,by decide,.inr ⟨_,0,rfl,by simp,fun i hi=>?_⟩,fun i hi=>?_,by simp[nv];omega⟩
 ·rw[World.cell?_alloc_at _ _ _ _ rfl];rcases i with _|_|i
  ·rfl
  ·rfl
  ·omega
 ·show (if i=0 then v%4294967296 else v/4294967296)<4294967296
  split <;> omega
theorem QkU (Q:Nat):(Q:Int)%4294967296=((Q%4294967296:Nat):Int):=by omega
theorem QkV {Q:Nat} (h:Q<18446744073709551616):(Q:Int)/4294967296%4294967296=((Q/4294967296:Nat):Int):=by omega
theorem QkK (Q:Nat):(Q:Int)/4294967296=((Q/4294967296:Nat):Int):=by omega
def Quo (w w':World) (v:Value) (x y:Nat):Prop:=∃ vq vr,v=.agg #[vq,vr]/\Pl w' vq 2199023255552 (x/y)/\Pl w' vr 2199023255552 (x%y)/\Below w.heap.size w w'
theorem Qeu (w W0 W':World) (B0 x y:Nat) (x0 x1 y0 y1:Int) (T:Nat) (v1 v2 v3 v4:Value) (hT:T=139) (hbx:Bx W0 B0 v1 v2) (hb0:Below w.heap.size w W0) (hB0:w.heap.size<=B0)
  (hx0:x0=((x%4294967296:Nat):Int)) (hx1:x1=((x/4294967296:Nat):Int)) (hy0:y0=((y%4294967296:Nat):Int)) (hy1:y1=((y/4294967296:Nat):Int)) (hx:x<18446744073709551616) (hy:y<18446744073709551616)
  (hW:W'=((((W0.setCell ⟨B0,0,none⟩ v3).setCell ⟨B0,1,none⟩ v4).alloc (.cells #[.int .u32 x0,.int .u32 x1] T)).alloc (.cells #[.int .u32 y0,.int .u32 y1] T)).drew) :
   Bx W' B0 v3 v4/\Pl W' (.slice (some ⟨W0.heap.size,0,none⟩) 2 2) 2199023255552 x/\Pl W' (.slice (some ⟨W0.heap.size+1,0,none⟩) 2 2) 2199023255552 y/\Below w.heap.size w W':=by
 subst hW;refine⟨?_,?_,?_,?_⟩
 ·exact(((hbx.put _ _).up (Qc _ _)).up (Qc _ _)).drew
 ·have h:=QjE ((W0.setCell ⟨B0,0,none⟩ v3).setCell ⟨B0,1,none⟩ v4) T W0.heap.size x x0 x1 hx0 hx1 (by simp) hT hx;exact(h.up (Qc _ _)).up (Bl.drew (Below.refl _ _))
 ·have h:=QjE (((W0.setCell ⟨B0,0,none⟩ v3).setCell ⟨B0,1,none⟩ v4).alloc (.cells #[.int .u32 x0,.int .u32 x1] T)) T (W0.heap.size+1) y y0 y1 hy0 hy1 (by simp) hT hy;exact h.up (Bl.drew (Below.refl _ _))
 ·exact Bl.drew (Bl.alloc (Bl.alloc ((hb0.setCell hB0 _).setCell hB0 _) _) _)
theorem Qen (a b:Option Addr) (n m ca cb:Nat) (f h:Nat->Nat) (w:World) (hn:n<=2) (hm:m<=2) (hwf:Wd w a n f) (hwh:Wd w b m h) (hf:Wf f n) (hh:Wf h m) (hy:0<nv h m) :
  Calls Tryz.prog 166 #[.slice a n ca,.slice b m cb] w fun e w'=>∃ v,e=.returned v/\Quo w w' v (nv f n) (nv h m):=by
 have i1:(n:Int)<=2:=by omega
 have i2:(m:Int)<=2:=by omega
 have ex:=QjB f n hn;have ey:=QjB h m hm;have p0:=Qbr hf 2 0 (by omega);have p1:=Qbr hf 2 1 (by omega);have q0:=Qbr hh 2 0 (by omega);have q1:=Qbr hh 2 1 (by omega);have jx:=QhY _ _ p0 p1;have jy:=QhY _ _ q0 q1;rw[<- ex] at jx;rw[<- ey] at jy;have hX:nv f n<18446744073709551616:=by omega
 have hY:nv h m<18446744073709551616:=by omega
 have wx:IntKind.u64.wrap ((pad f n 1:Int)*4294967296)=(pad f n 1:Int)*4294967296:=IntWalk.u64_in _ (by omega);have wy:IntKind.u64.wrap ((pad h m 1:Int)*4294967296)=(pad h m 1:Int)*4294967296:=IntWalk.u64_in _ (by omega);clear ex ey;have aA:=Bx.new w (.slice none 0 0) (.slice none 0 0) 222;have aB:=Qc w (.cells #[.slice none 0 0,.slice none 0 0] 222);go_enter Tryz.func166,Tryz.ntmps166
 go_wp2_with fail;generalize w.alloc (.cells #[.slice none 0 0,.slice none 0 0] 222)=W0 at *;refine(Qa8 a n ca f 0 _ (by omega) (by omega) (hwf.up aB) hf).mono ?_;rintro e w2 ⟨rfl,rfl⟩;go_wp2_with fail;refine(Qa8 a n ca f 1 _ (by omega) (by omega) (hwf.up aB) hf).mono ?_;rintro e w2 ⟨rfl,rfl⟩;go_wp2_with fail;refine(Qa8 b m cb h 0 _ (by omega) (by omega) (hwh.up aB) hh).mono ?_;rintro e w2 ⟨rfl,rfl⟩;go_wp2_with fail;refine(Qa8 b m cb h 1 _ (by omega) (by omega) (hwh.up aB) hh).mono ?_;rintro e w2 ⟨rfl,rfl⟩;go_upto_region 4 with fail;(try rw[wx]);(try rw[jx]);(try rw[wy]);(try rw[jy])
 clear jx jy wx wy p0 p1 q0 q1 hwf hwh hf hh i1 i2;generalize hXe:nv f n=X at *;generalize hYe:nv h m=Y at *;have aF:=Qh hXe;have aE:=Qh hYe;clear hXe hYe;have y0:(0:Int)<(Y:Int):=by omega
 have y1:((Y:Int) == 0)=false:=by rw[beq_eq_false_iff_ne];omega
 have y2:¬ (Y:Int)=0:=by omega
 have y3:¬ Y=0:=by omega
 have x0:(0:Int)<=(X:Int):=by omega
 have c0:=aA.c0;have c1:=aA.c1;have f0:=aA.f0;have f1:=aA.f1;have aH:=aB.size;have aI:=aA.lt
 have aG:IntKind.u64.wrap ((X:Int)/(Y:Int))=(X:Int)/(Y:Int):=by
  rw[<- Int.natCast_ediv];have:=Nat.div_le_self X Y;generalize X/Y=Z at *;exact IntWalk.u64_in _ (by omega)
 have eq:(X:Int)/(Y:Int)=((X/Y:Nat):Int):=(Int.natCast_ediv _ _).symm;have er:(X:Int)%(Y:Int)=((X%Y:Nat):Int):=(Int.natCast_emod _ _).symm;have aD:X/Y<18446744073709551616:=Nat.lt_of_le_of_lt (Nat.div_le_self _ _) hX;have aC:X%Y<18446744073709551616:=Nat.lt_of_le_of_lt (Nat.mod_le _ _) hX;have EQ:=Qh eq;have ER:=Qh er;clear eq er y1 y2;go_region
 all_goals go_wp2_with fail
 ·generalize hW:World.drew _=W';obtain⟨k1,k2,k3,k4⟩:=Qeu w W0 W' w.heap.size (X/Y) (X%Y) _ _ _ _ _ _ _ (.slice (some ⟨W0.heap.size,0,none⟩) 2 2) (.slice (some ⟨W0.heap.size+1,0,none⟩) 2 2) rfl aA aB (Nat.le_refl _) (by rw[EQ.out];exact QkU _) (by rw[EQ.out];exact QkV aD) (by rw[ER.out];exact QkU _) (by rw[ER.out];first|exact QkK _|exact QkV aC) aD aC hW.symm;exact Qig (B:=w.heap.size) rfl rfl rfl k1 ⟨_,rfl,_,_,rfl,by rw[aF.out,aE.out];exact k2,by rw[aF.out,aE.out];exact k3,k4⟩
 ·generalize hW:World.drew _=W';obtain⟨k1,k2,k3,k4⟩:=Qeu w W0 W' w.heap.size (X%Y) (X/Y) _ _ _ _ _ _ _ (.slice (some ⟨W0.heap.size+1,0,none⟩) 2 2) (.slice (some ⟨W0.heap.size,0,none⟩) 2 2) rfl aA aB (Nat.le_refl _) (by rw[ER.out];exact QkU _) (by rw[ER.out];first|exact QkK _|exact QkV aC) (by rw[EQ.out];exact QkU _) (by rw[EQ.out];exact QkV aD) aC aD hW.symm;exact Qig (B:=w.heap.size) rfl rfl rfl k1 ⟨_,rfl,_,_,rfl,by rw[aF.out,aE.out];exact k3,by rw[aF.out,aE.out];exact k2,k4⟩
structure DvF (w:World) (gr n gq L gd M:Nat) (fr fq fd:Nat->Nat) (W:World):Prop where
 r:Mo W gr n fr
 q:Mo W gq L fq
 d:Mo W gd M fd
 bx:Bx W w.heap.size (.slice none 0 0) (.slice none 0 0)
 bl:Below w.heap.size w W
 hr:w.heap.size<gr
 hq:gr<gq
 hd:gq<gd
theorem Bx.only {w w':World} {B g:Nat} {x y:Value} (h:Bx w B x y) (ho:Only g w w') (hne:B≠g):Bx w' B x y:=by
 have hk:=ho.1 B hne;exact⟨(World.cell?_of_block (w:=w) hk).trans h.c0,(World.cell?_of_block (w:=w) hk).trans h.c1,(World.frozen?_of_block (w:=w) hk).trans h.f0,(World.frozen?_of_block (w:=w) hk).trans h.f1⟩
section
variable {w W W':World} {gr n gq L gd M:Nat} {fr fq fd:Nat->Nat}
theorem DvF.onlyR (h:DvF w gr n gq L gd M fr fq fd W) (ho:Only gr W W') {f':Nat->Nat} (hm:Mo W' gr n f'):DvF w gr n gq L gd M f' fq fd W':=
 ⟨hm,h.q.only ho (by have:=h.hq;omega),h.d.only ho (by have:=h.hq;have:=h.hd;omega),h.bx.only ho (by have:=h.hr;omega),ho.2.1 _ _ h.bl (by have:=h.hr;omega),h.hr,h.hq,h.hd⟩
theorem DvF.onlyD (h:DvF w gr n gq L gd M fr fq fd W) (ho:Only gd W W') {f':Nat->Nat} (hm:Mo W' gd M f'):DvF w gr n gq L gd M fr fq f' W':=
 ⟨h.r.only ho (by have:=h.hq;have:=h.hd;omega),h.q.only ho (by have:=h.hd;omega),hm,h.bx.only ho (by have:=h.hr;have:=h.hq;have:=h.hd;omega),ho.2.1 _ _ h.bl (by have:=h.hr;have:=h.hq;have:=h.hd;omega),h.hr,h.hq,h.hd⟩
theorem DvF.setQ (h:DvF w gr n gq L gd M fr fq fd W) {i:Nat} (hi:i<L) (x:Nat):DvF w gr n gq L gd M fr (upd fq i x) fd (W.setCell ⟨gq,i,none⟩ (.int .u32 (x:Int))):=by
 have ho:Only gq W (W.setCell ⟨gq,i,none⟩ (.int .u32 (x:Int))):=(Only.refl _ _).set i _;exact⟨h.r.only ho (by have:=h.hq;omega),h.q.setw hi x,h.d.only ho (by have:=h.hd;omega),h.bx.only ho (by have:=h.hr;have:=h.hq;omega),ho.2.1 _ _ h.bl (by have:=h.hr;have:=h.hq;omega),h.hr,h.hq,h.hd⟩
end
structure DvN (A B k:Nat) (r q d:Nat):Prop where
 e:A=q*B+r
 lt:r<B*2 ^ k
 dv:2 ^ k∣q
 dd:0<k->d=B*2 ^ (k-1)
theorem DvN.stepT {A B i r q d:Nat} (h:DvN A B (i+1) r q d) (hle:d<=r):DvN A B i (r-d) (q+2 ^ i) (d/2):=by
 have hd:=h.dd (Nat.succ_pos _);rw[Nat.add_sub_cancel] at hd;have hl:=h.lt;rw[Nat.pow_succ,<- Nat.mul_assoc] at hl;refine⟨?_,by omega,?_,fun hi=>?_⟩
 ·rw[h.e,Nat.add_mul,hd,Nat.mul_comm (2 ^ i) B];omega
 ·exact Nat.dvd_add (Nat.dvd_trans (Nat.pow_dvd_pow 2 (Nat.le_succ i)) h.dv) (Nat.dvd_refl _)
 ·rw[hd];obtain⟨j,rfl⟩:∃ j,i=j+1:=⟨i-1,by omega⟩;rw[Nat.add_sub_cancel,Nat.pow_succ,<- Nat.mul_assoc];omega
theorem DvN.stepF {A B i r q d:Nat} (h:DvN A B (i+1) r q d) (hle:¬ d<=r):DvN A B i r q (d/2):=by
 have hd:=h.dd (Nat.succ_pos _);rw[Nat.add_sub_cancel] at hd;refine⟨h.e,by omega,Nat.dvd_trans (Nat.pow_dvd_pow 2 (Nat.le_succ i)) h.dv,fun hi=>?_⟩;rw[hd];obtain⟨j,rfl⟩:∃ j,i=j+1:=⟨i-1,by omega⟩;rw[Nat.add_sub_cancel,Nat.pow_succ,<- Nat.mul_assoc];omega
theorem DvN.done {A B r q d:Nat} (h:DvN A B 0 r q d):q=A/B/\r=A%B:=by
 have hl:=h.lt;rw[Nat.pow_zero,Nat.mul_one] at hl;have he:=h.e;have hB:0<B:=by omega
 constructor
 ·rw[he,Nat.mul_comm,Nat.mul_add_div hB,Nat.div_eq_of_lt hl];rfl
 ·rw[he,Nat.mul_comm,Nat.mul_add_mod,Nat.mod_eq_of_lt hl]
theorem DvN.start {A B n bA bB:Nat} (hA:A<2 ^ bA) (hB:0<bB->2 ^ (bB-1)<=B) (hB0:0<B) (hB1:B<2 ^ bB) (hn:bA=n+bB):DvN A B (n+1) A 0 (B*2 ^ n):=by
 have hb:0<bB:=by
  rcases Nat.eq_zero_or_pos bB with e|e
  ·subst e;simp at hB1;omega
  ·exact e
 have h1:=hB hb;refine⟨by omega,?_,⟨0,by simp⟩,fun _=>by rw[Nat.add_sub_cancel]⟩;have h2:2 ^ bA=2 ^ (bB-1)*2 ^ (n+1):=by rw[<- Nat.pow_add];congr 1;omega
 have h3:2 ^ (bB-1)*2 ^ (n+1)<=B*2 ^ (n+1):=Nat.mul_le_mul_right _ h1;omega
theorem Qf9 (a b:Option Addr) (n m ca cb:Nat) (f h:Nat->Nat) (w:World) (hn:n<=1099511627776) (hm:m<=1099511627776) (hnc:n<=ca) (hmc:m<=cb) (hbig:2<n\/2<m) (hwf:Wd w a n f) (hwh:Wd w b m h) (hf:Wf f n) (hh:Wf h m) (cf:Can f n) (ch:Can h m) (hy:0<nv h m) :
  Calls Tryz.prog 166 #[.slice a n ca,.slice b m cb] w fun e w'=>∃ v,e=.returned v/\Quo w w' v (nv f n) (nv h m):=by
 have IA:It w (Qlv false a n ca) (nv f n:Int):=⟨a,n,ca,f,by rw[decide_eq_false (by omega)],hnc,hwf,hf,cf,by simp⟩;have IB:It w (Qlv false b m cb) (nv h m:Int):=⟨b,m,cb,h,by rw[decide_eq_false (by omega)],hmc,hwh,hh,ch,by simp⟩;have bC:sz (nv f n:Int)<=1099511627776:=by show Qq (nv f n)<=_;rw[QaV hf cf];exact hn
 have bO:sz (nv h m:Int)<=1099511627776:=by show Qq (nv h m)<=_;rw[QaV hh ch];exact hm
 have aA:=Bx.new w (.slice none 0 0) (.slice none 0 0) 222;have aB:=Qc w (.cells #[.slice none 0 0,.slice none 0 0] 222);have aT:(w.alloc (.cells #[.slice none 0 0,.slice none 0 0] 222)).heap.size=w.heap.size+1:=Zk2 _ _
 have hg:(decide ((n:Int)<=2) && decide ((m:Int)<=2))=false:=by
  rcases hbig with c|c
  ·rw[decide_eq_false (by omega:¬ (n:Int)<=2)];rfl
  ·rw[decide_eq_false (by omega:¬ (m:Int)<=2)];simp
 go_enter Tryz.func166,Tryz.ntmps166
 by_cases i1:(n:Int)<=2
 case' pos=>
  have i2:¬ (m:Int)<=2:=by intro i2;rw[decide_eq_true i1,decide_eq_true i2] at hg;exact absurd hg (by decide)
  clear hg;go_upto_region 5 with fail
 case' neg=>
  clear hg;go_upto_region 5 with fail
 all_goals
  clear i1;(try clear i2)
  generalize w.alloc (.cells #[.slice none 0 0,.slice none 0 0] 222)=W0 at *;have a9:=Aw.lit0 W0 (base:=w.heap.size+1) (by omega) f;have aI:=(hwf.up aB).up (Qc W0 (.cells #[] 139));rw[aT] at a9;go_wp2_with (at_builtin;go_must (refine QiW rfl (.tmp 53) (.tmp 54) _ rfl Tryz.underlying26 (w.heap.size+1) _ rfl f f a9 (by simp;omega) a n ca rfl aI (by omega) ?_);intro vr W1 hR aE)
  replace aE:Below W0.heap.size W0 W1:=by rw[aT];exact((Qc W0 (.cells #[] 139)).mono (by omega)).trans aE
  replace aA:=aA.up aE;replace aB:=Bl.up aB aE;have aH:=aE.size;rw[aT] at aH;clear a9 aI aE aT;refine(QfN _ _ _ (IA.up aB) bC).mono ?_;rintro e W2 ⟨bA,rfl,a1,a2,a3,aQ⟩;replace aA:=aA.up aQ;replace aB:=Bl.up aB aQ;replace hR:=hR.up aQ;replace aH:=Qt aH aQ.size;clear aQ;go_wp2_with fail;refine(QfN _ _ _ (IB.up aB) bO).mono ?_;rintro e W3 ⟨bB,rfl,b1,b2,b3,aP⟩;replace aA:=aA.up aP;replace aB:=Bl.up aB aP;replace hR:=hR.up aP;replace aH:=Qt aH aP.size;clear aP IA IB;rw[Int.natAbs_natCast] at a1 a2 b1 b2;have bN:IntKind.i64.wrap ((bA:Int)-(bB:Int))=(bA:Int)-(bB:Int):=IntWalk.i64_in _ (by omega);obtain⟨ar,cr,rfl,bH,bI⟩:=hR.out
  have bE:∀ x,ar=some x->x.block≠w.heap.size:=fun x hx=>by
   have:=(World.ownsRow.lt hR) x.block (by rw[hx];rfl);omega
  have k0:=aA.c0;have k1:=aA.c1;have k2:=aA.f0;have k3:=aA.f1;have A1:=Qh a1;have A2:=Qh a2;have B1:=Qh b1;have B2:=Qh b2;clear a1 a2 b1 b2;by_cases hlt:bA<bB
  ·have c0:(bA:Int)-(bB:Int)<0:=by omega
   have bL:nv f n<nv h m:=by
    have h1:=A1.out;have h2:=B2.out (by omega);have h3:2 ^ bA<=2 ^ (bB-1):=Nat.pow_le_pow_right (by decide) (by omega);omega
   have bM:=Qh bL;clear bL hR;go_wp2_with fail;refine Qig (B:=w.heap.size) rfl rfl rfl (aA.put _ _) ⟨_,rfl,_,_,rfl,?_,?_,(aB.setCell (by show w.heap.size<=w.heap.size;exact Nat.le_refl _) _).setCell (by show w.heap.size<=w.heap.size;exact Nat.le_refl _) _⟩
   ·exact⟨none,0,0,fun _=>0,rfl,Nat.le_refl _,by decide,.inl rfl,fun i hi=>absurd hi (Nat.not_lt_zero i),(Nat.div_eq_of_lt bM.out).symm⟩
   ·exact⟨ar,n,cr,f,rfl,bH,by omega,bI.only (((Only.refl _ _).set 0 _).set 1 _) bE,hf,(Nat.mod_eq_of_lt bM.out).symm⟩
  ·obtain⟨N,hN⟩:∃ N,bA=N+bB:=⟨bA-bB,by omega⟩;have a4:=DvN.start A1.out B2.out hy B1.out hN;have eN:(bA:Int)-(bB:Int)=(N:Int):=by omega
   have bY:N<=35184372088832:=by
    have e1:sz (nv f n:Int)<=1099511627776:=bC;omega
   have bP:0<n:=by
    rcases Nat.eq_zero_or_pos n with e|e
    ·exfalso
     subst e;have h1:(0:Nat)<2 ^ bA:=Nat.pow_pos (by decide);have h2:=B2.out;have h3:nv f 0=0:=rfl
     have h4:bA=0:=by
      rcases Nat.eq_zero_or_pos bA with e|e
      ·exact e
      ·have:=A2.out e;have h5:0<2 ^ (bA-1):=Nat.pow_pos (by decide);omega
     have h6:bB=0:=by omega
     have h7:=B1.out;rw[h6] at h7;omega
    ·exact e
   obtain⟨gr,b0,er,a6,bX,aR⟩:=hR.own bP;injection er with er1 er2 er3;subst er1 er3;clear er2 bI hR bE hlt a6;clear A1 A2 B1 B2 hN a3 b3 k0 k1 k2 k3;have EN:=Qh eN;clear eN;go_upto_region 7 with fail;rw[EN.out];clear EN bN;have q0:(0:Int)<=(N:Int):=by omega
   have q1:¬ (N:Int)<0:=by omega
   have bQ:=Qk1 ((N:Int)/32+1) (N/32+1) (by omega) (by omega);have wq:IntKind.i64.wrap ((N:Int)/32+1)=(N:Int)/32+1:=IntWalk.i64_in _ (by omega);go_upto_region 10 with fail;clear bQ wq;obtain⟨L,hL⟩:∃ L,L=N/32+1:=⟨_,rfl⟩;rw[<- hL];have a7:=Mo.of (Own.zeros W3 139 L);have aV:=Qc W3 (.cells (madeCells #[.int .u32 0] L) 139);have bF:gr<W3.heap.size:=aR.lt;replace aR:=aR.up aV;replace aA:=aA.up aV;replace aB:=Bl.up aB aV;clear aV;have HL:=Qh hL;clear hL;generalize hgqe:W3.heap.size=gq at *;clear hgqe;generalize W3.alloc (.cells (madeCells #[.int .u32 0] L) 139)=W4 at *;go_wp2_with fail;refine(Qi8 b m cb N h _ hm (by omega) (hwh.up aB) hh).mono ?_;rintro e W5 ⟨gd,M,cd,fd,rfl,bZ,bG,bK,bJ,bR,a0,aO⟩;have aM:gq<gd:=Nat.lt_of_lt_of_le a7.lt bG;have F0:DvF w gr n gq L gd M f (fun _=>0) fd W5:=⟨aR.up aO,a7.up aO,bK,aA.up aO,Bl.up aB aO,by omega,bF,aM⟩;rw[<- a0] at a4;have a8:M<=4398046511104:=by omega
   have bU:=Qh a0;have N0:DvN (nv f n) (nv h m) (N+1) (nv f n) (nv (fun _=>0) L) (nv fd M):=by rw[QbR (fun _ _=>rfl)];exact a4
   clear aO aR a7 bK aA aB bG a0 a4 bR bF aM;go_wp2_with fail
   go_loopw [11] (fun s wq=>∃ (k:Nat) (fr fq fd:Nat->Nat),k<=N+1/\s=.int .i64 ((k:Int)-1)/\DvF w gr n gq L gd M fr fq fd wq/\Wf fr n/\Wf fq L/\Wf fd M/\DvN (nv f n) (nv h m) k (nv fr n) (nv fq L) (nv fd M))
    (fun s _=>((intOf s)+1).toNat)
   case atStart=>exact⟨N+1,f,fun _=>0,fd,Nat.le_refl _,by go_num,F0,hf,fun _ _=>Nat.zero_lt_succ _,bJ,N0⟩
   case round=>
    clear F0 bJ N0 bU;obtain⟨k,fr,fq,fd,hk,rfl,F,aC,aD,aS,hN⟩:=hrel;have HN:=Qh hN;clear hN;rcases k with _|i
    ·have c0:¬ (0:Int)<=((0:Nat):Int)-1:=by omega
     have k0:=F.bx.c0;have k1:=F.bx.c1;have k2:=F.bx.f0;have k3:=F.bx.f1;obtain⟨d1,d2⟩:=HN.out.done;have bW:=Qh d1;have bV:=Qh d2;clear d1 d2;go_wp2_with fail;have ho:Only w.heap.size wr ((wr.setCell ⟨w.heap.size,0,none⟩ (.slice (some ⟨gq,0,none⟩) L L)).setCell ⟨w.heap.size,1,none⟩ (.slice (some ⟨gr,0,none⟩) n cr)):=((Only.refl _ _).set 0 _).set 1 _;refine Qig (B:=w.heap.size) rfl rfl rfl (F.bx.put _ _) ⟨_,rfl,_,_,rfl,?_,?_,(F.bl.setCell (by show w.heap.size<=w.heap.size;exact Nat.le_refl _) _).setCell (by show w.heap.size<=w.heap.size;exact Nat.le_refl _) _⟩
     ·exact⟨_,_,_,fq,rfl,Nat.le_refl _,by have:=HL.out;omega,(F.q.only ho (by have:=F.hr;have:=F.hq;omega)).wd,aD,bW.out⟩
     ·exact⟨_,_,_,fr,rfl,bH,by omega,(F.r.only ho (by have:=F.hr;omega)).wd,aC,bV.out⟩
    ·rw[show (((i+1:Nat):Int)-1)=(i:Int) by omega];have c0:(0:Int)<=(i:Int):=by omega
     go_wp2_with fail;refine(Qfg _ _ n M cr cd fr fd wr (by omega) a8 F.r.wd F.d.wd aC aS).mono ?_;rintro e w2 ⟨rfl,rfl⟩;by_cases hle:nv fd M<=nv fr n
     case' pos=>
      rw[decide_eq_true hle];have HT:=Qh (HN.out.stepT hle);have aU:i/32<L:=by have:=HL.out;omega
      obtain⟨aY,aX,aW⟩:=QiS aD aU HN.out.dv;clear HN;go_wp2_with fail;refine(QiD gr _ n M cr cd fr fd wr (by omega) a8 F.r aC F.d.wd aS (fun x hx=>by have:=Option.some.inj hx;rw[<- this];have:=F.hq;have:=F.hd;show gd≠gr;omega) hle).mono ?_;rintro e w3 ⟨rfl,bS,aL,aF,aJ,aK⟩;rw[<- aJ] at HT;have F':=F.onlyR aK aL;clear F aK aL aC aJ hle;obtain⟨v,hv⟩:∃ v,i/32=v:=⟨_,rfl⟩;obtain⟨r,hr⟩:∃ r,i%32=r:=⟨_,rfl⟩;have e1:(i:Int)/32=(v:Int):=by omega
      have e2:(i:Int)%32=(r:Int):=by omega
      have a5:r<32:=by omega
      rw[hv] at aU aY aX aW;rw[hr] at aY aX aW;rw[<- aW] at HT
      have aG:Wf (upd fq v (fq v+2 ^ r)) L:=fun j hj=>by
       by_cases e:j=v
       ·subst e;rw[QaZ];exact aX
       ·rw[QaU _ _ _ _ e];exact aD j hj
      have F2:=F'.setQ aU (fq v+2 ^ r);have k0:=F'.q.cell aU;have k1:=F'.q.free v;have v0:(0:Int)<=(v:Int):=by omega
      have v1:(v:Int)<(L:Int):=by omega
      have r0:IntKind.u64.wrap (r:Int)=(r:Int):=IntWalk.u64_in _ (by omega)
      have bD:(2:Int) ^ r%4294967296=((2 ^ r:Nat):Int):=by
       have h1:2 ^ r<4294967296:=Nat.lt_of_lt_of_le (Nat.pow_lt_pow_right (by decide) a5) (by decide);rw[show (2:Int) ^ r=((2 ^ r:Nat):Int) by simp];generalize 2 ^ r=p at *;omega
      have HZ:=Qh (show bits BinOp.or IntKind.u32 (fq v:Int) ((2:Int) ^ r%4294967296)=((fq v+2 ^ r:Nat):Int) by rw[bD];exact aY);clear hv hr aW F' aD aX aY bD;generalize fq v+2 ^ r=z at *;generalize fq v=y at *;go_upto_region 16 with fail;go_wp2_with fail;rw[HZ.out];clear k0 k1 v0 v1 r0 e1 e2 HZ;generalize w3.setCell ⟨gq,v,none⟩ (.int .u32 (z:Int))=w3 at *;generalize upd fq v z=fq at *;generalize bS=fr at *;clear c0
     case' neg=>
      rw[decide_eq_false hle];have HT:=Qh (HN.out.stepF hle);have F2:=F;have aF:=aC;have aG:=aD;clear HN F aC aD c0 hle;go_wp2_with fail
     all_goals
      refine(Qi6 gd M cd fd _ a8 F2.d aS).mono ?_;rintro e w5 ⟨rfl,bT,aL,aZ,aJ,aK⟩;rw[<- aJ] at HT;have F3:=F2.onlyD aK aL;clear F2 aK aL aS aJ;go_wp2_with fail;go_roundw
      case rel=>exact⟨i,fr,fq,bT,by omega,by first|rfl|go_num,F3,aF,aG,aZ,HT.out⟩
      case measure=>simp[intOf] <;> omega
theorem Qfy (va:Value) (x:Int) (w:World) (hx:It w va x) (hs:sz x<=4398046511104) :
  Calls Tryz.prog 55 #[va] w fun e w'=>∃ v,e=.returned v/\It w' v (-x)/\Below w.heap.size w w':=by
 obtain⟨a,aA,f,rfl,h1,h2,h3,h4,h5⟩:=hx.parts;have H5:=Qh h5;clear h5;go_enter Tryz.func55,Tryz.ntmps55
 go_wp2_with fail;refine(Qbu _ a (sz x) aA f _ h1 (by omega) (h2.up ((Qc _ _).alloc (by simp) _)) h3).mono ?_;rintro e w1 ⟨v,rfl,hv,hb⟩;rw[H5.out,Qjf] at hv;have hB:=(Bx.new (w.alloc (.cells #[.bool (decide (x<0)),.slice a (sz x) aA] 33)) (.bool false) (.slice none 0 0) 33).up hb;have hN:=(NoW.new (w.alloc (.cells #[.bool (decide (x<0)),.slice a (sz x) aA] 33)) #[.bool false,.slice none 0 0] 33 rfl).up (by simp) hb;have aB:=((Qc w (.cells #[.bool (decide (x<0)),.slice a (sz x) aA] 33)).alloc (by simp) (Qlr 33 false none 0 0)).trans (hb.mono (by simp;omega));simp only[Zk2] at hB hN;have c0:=hB.c0;have c1:=hB.c1;have f0:=hB.f0;have f1:=hB.f1;clear hb;obtain⟨s',a',n',aC,rfl⟩:=hv.shape;go_wp2_with fail;exact Qbt (B:=w.heap.size+1) rfl rfl rfl (hB.put _ _) ⟨_,rfl,hv.put hN _ _ _ _,(aB.setCell (by simp) _).setCell (by simp) _⟩
theorem Qcp (va:Value) (x:Int) (w:World) (hx:It w va x) :
  Calls Tryz.prog 35 #[va] w fun e w'=>e=.returned (.int .i64 (QaW x 0))/\Below w.heap.size w w':=by
 obtain⟨a,aA,f,rfl,h1,h2,h3,h4,h5⟩:=hx.parts;rcases Int.lt_trichotomy x 0 with h|h|h
 ·have hz:((sz x:Int) == 0)=false:=by rw[beq_eq_false_iff_ne];have:=mt QbF.1 (show x≠0 by omega);omega
  have hd:decide (x<0)=true:=by simpa using h
  go_enter Tryz.func35,Tryz.ntmps35
  go_wp2_with fail;go_ret
  exact⟨Qa2 (by rw[Qbb h];rfl),Qc _ _⟩
 ·subst h;have hz:sz 0=0:=rfl;rw[hz];clear hz;go_enter Tryz.func35,Tryz.ntmps35
  go_wp2_with fail;go_ret
  exact⟨Qa2 (by rw[Qbx rfl];rfl),Qc _ _⟩
 ·have hz:((sz x:Int) == 0)=false:=by rw[beq_eq_false_iff_ne];have:=mt QbF.1 (show x≠0 by omega);omega
  have hd:decide (x<0)=false:=by simp;omega
  go_enter Tryz.func35,Tryz.ntmps35
  go_wp2_with fail;go_ret
  exact⟨Qa2 (by rw[Qbc h];rfl),Qc _ _⟩
theorem Qgh (a b:Option Addr) (n m ca cb:Nat) (f h:Nat->Nat) (w:World) (hn:n<=1099511627776) (hm:m<=1099511627776) (hnc:n<=ca) (hmc:m<=cb) (hwf:Wd w a n f) (hwh:Wd w b m h) (hf:Wf f n) (hh:Wf h m) (cf:Can f n) (ch:Can h m) (hy:0<nv h m) :
  Calls Tryz.prog 166 #[.slice a n ca,.slice b m cb] w fun e w'=>∃ v,e=.returned v/\Quo w w' v (nv f n) (nv h m):=by
 by_cases hs:n<=2/\m<=2
 ·exact Qen a b n m ca cb f h w hs.1 hs.2 hwf hwh hf hh hy
 ·exact Qf9 a b n m ca cb f h w hn hm hnc hmc (by omega) hwf hwh hf hh cf ch hy
theorem QcN (va:Value) (x:Int) (w:World) (hx:It w va x) (hs:sz x<=4398046511104) :
  Calls Tryz.prog 80 #[va] w fun e w'=>∃ v,e=.returned v/\It w' v (x.natAbs:Int)/\Below w.heap.size w w':=by
 obtain⟨a,aA,f,rfl,h1,h2,h3,h4,h5⟩:=hx.parts;have H5:=Qh h5;clear h5;go_enter Tryz.func80,Tryz.ntmps80
 go_wp2_with fail;refine(Qbu _ a (sz x) aA f _ h1 (by omega) (h2.up ((Qc _ _).alloc (by simp) _)) h3).mono ?_;rintro e w1 ⟨v,rfl,hv,hb⟩;rw[H5.out,Qjs] at hv;have hB:=(Bx.new (w.alloc (.cells #[.bool (decide (x<0)),.slice a (sz x) aA] 33)) (.bool false) (.slice none 0 0) 33).up hb;have hN:=(NoW.new (w.alloc (.cells #[.bool (decide (x<0)),.slice a (sz x) aA] 33)) #[.bool false,.slice none 0 0] 33 rfl).up (by simp) hb;have aB:=((Qc w (.cells #[.bool (decide (x<0)),.slice a (sz x) aA] 33)).alloc (by simp) (Qlr 33 false none 0 0)).trans (hb.mono (by simp;omega));simp only[Zk2] at hB hN;have c0:=hB.c0;have c1:=hB.c1;have f0:=hB.f0;have f1:=hB.f1;clear hb;obtain⟨s',a',n',aC,rfl⟩:=hv.shape;go_wp2_with fail;exact Qbt (B:=w.heap.size+1) rfl rfl rfl (hB.put _ _) ⟨_,rfl,hv.put hN _ _ _ _,(aB.setCell (by simp) _).setCell (by simp) _⟩
theorem QfW (va vb:Value) (x y:Int) (w:World) (hx:It w va x) (hy:It w vb y) (hsx:sz x<=2199023255552) (hsy:sz y<=2199023255552) :
  Calls Tryz.prog 84 #[va,vb] w fun e w'=>∃ v,e=.returned v/\It w' v (x-y)/\Below w.heap.size w w':=by
 obtain⟨W,s1,a1,n1,c1,s2,a2,n2,c2,rfl,rfl,hW,b,vX,vY,vR,hs,p0,p1,q0,q1,aE,aH⟩:=Qch w hx hy;clear hx hy;go_enter Tryz.func84,Tryz.ntmps84
 go_upto_region 1 with fail;rw[<- hW];clear hW;refine QaT (by kernel_rfl) [4] (S:=fun w'=>w'.cell? ⟨w.heap.size,0,none⟩=some (.bool s1)/\w'.cell? ⟨w.heap.size,1,none⟩=some (.slice a1 n1 c1)/\w'.cell? ⟨w.heap.size+1,0,none⟩=some (.bool s2)/\w'.cell? ⟨w.heap.size+1,1,none⟩=some (.slice a2 n2 c2)) ⟨p0,p1,q0,q1⟩ (fun aD=>?_);refine kL 0 rfl ?_;refine kL 1 rfl ?_;(refine oL 2 rfl fun K hK=>tL ?_;go_simp);refine(Qfy _ y _ aH.drew (by omega)).mono ?_;rintro e w4 ⟨r1,rfl,aG,aA⟩;obtain⟨s3,a3,n3,c3,rfl⟩:=aG.shape;replace p0:=QaD aA (Qa7 p0);replace p1:=QaD aA (Qa7 p1);replace q0:=QaD aA (Qa7 q0);replace q1:=QaD aA (Qa7 q1);replace aE:=aE.drew.up aA;replace vR:=vR.drew.up aA;replace b:=Bl.up (Bl.drew b) aA;go_wp2_with fail;refine hK.out _ _ (fun _=>⟨p0,p1,q0,q1⟩) ?_;have aB:w4.cell? ⟨w.heap.size,0,none⟩=some (.bool s1)/\w4.cell? ⟨w.heap.size,1,none⟩=some (.slice a1 n1 c1)/\w4.cell? ⟨w.heap.size+1,0,none⟩=some (.bool s2)/\w4.cell? ⟨w.heap.size+1,1,none⟩=some (.slice a2 n2 c2):=⟨p0,p1,q0,q1⟩;clear hK aD;refine tL ?_;(refine oL 3 rfl fun K hK=>tL ?_;go_simp);refine(QdN _ _ x (-y) _ aE aG hsx (by rw[QgN];exact hsy)).mono ?_;rintro e w5 ⟨r2,rfl,aF,aC⟩;rw[<- Int.sub_eq_add_neg] at aF;obtain⟨s4,a4,n4,c4,rfl⟩:=aF.shape;replace p0:=QaD aC p0;replace p1:=QaD aC p1;replace q0:=QaD aC q0;replace q1:=QaD aC q1;replace vR:=vR.up aC;replace b:=Bl.up b aC;obtain⟨s5,a5,n5,c5,u0,u1,u2,u3,-⟩:=vR.cells;go_wp2_with fail;refine hK.out _ _ (fun _=>⟨p0,p1,q0,q1⟩) ?_;clear hK aB;refine tL ?_;(refine oL 4 rfl fun K hK=>tL ?_;go_simp);go_wp2_with fail;refine hK.out _ _ nzz ?_;clear hK;refine tL ?_;refine QbJ (by kernel_rfl) ?_ _;go_wp2_with fail;refine Qbl (B:=w.heap.size+1+1) (z:=x-y) rfl rfl rfl (Vx.put vR.va aF) (fun v hv=>⟨v,rfl,hv,Bl.st b (by omega)⟩)
theorem Qda (va vb:Value) (x y:Int) (w:World) (hx:It w va x) (hy:It w vb y) (hy0:y≠0) (hsx:sz x<=1099511627776) (hsy:sz y<=1099511627776) :
  Calls Tryz.prog 115 #[va,vb] w fun e w'=>∃ vq vr,e=.returned (.tuple #[vq,vr,.int .i64 0])/\It w' vq (x/y)/\It w' vr (x%y)/\Below w.heap.size w w':=by
 obtain⟨a,ca,f,rfl,h1,h2,h3,h4,h5⟩:=hx.parts;obtain⟨b,cb,g,rfl,k1,k2,k3,k4,k5⟩:=hy.parts;have H5:=Qh h5;have K5:=Qh k5;clear h5 k5;have hz:((sz y:Int) == 0)=false:=by rw[beq_eq_false_iff_ne];have:=mt QbF.1 hy0;omega
 obtain⟨W,hW,hw,d1,d2,d3,d4,n1,n2,n3,n4,-⟩:=QdI w (decide (x<0)) (decide (y<0)) a b (sz x) (sz y) ca cb 33;replace hx:=hx.up hw;replace hy:=hy.up hw;replace h2:=h2.up hw;replace k2:=k2.up hw;have p0:=d1.c0;have p1:=d1.c1;have p2:=d2.c1;have p3:=d2.c0;have aQ:0<nv g (sz y):=by rw[K5.out];omega
 go_enter Tryz.func115,Tryz.ntmps115
 go_wp2_with fail;rw[<- hW];clear hW;have vY:=Vx.mk d2 hy n2;have vQ:=Vx.mk d3 (QaY W) n3;have vR:=Vx.mk d4 (QaY W) n4;clear d1 d2 d3 d4 n1 n2 n3 n4 hx hy;refine(Qgh a b (sz x) (sz y) ca cb f g W hsx hsy h1 k1 h2 k2 h3 k3 h4 k4 aQ).mono ?_;rintro e w1 ⟨v,rfl,vq,vr,rfl,hq,hr,hb⟩;rw[H5.out,K5.out] at hq hr;obtain⟨aq,nq,cq,fq,rfl,q1,q2,q3,q4,q5⟩:=hq;obtain⟨ar,nr,cr,fr,rfl,r1,r2,r3,r4,r5⟩:=hr;clear h1 h2 h3 h4 k1 k2 k3 k4 H5 K5 aQ;replace hw:=Bl.up hw hb;replace vY:=vY.up hb;replace vQ:=vQ.up hb;replace vR:=vR.up hb;replace p0:=QaD hb p0;replace p3:=QaD hb p3;clear p1 p2 hb;go_upto_region 4 with fail;obtain⟨W2,aH⟩:∃ W2,W2=w1.alloc (.cells #[.slice aq nq cq,.slice ar nr cr] 222):=⟨_,rfl⟩;have hb:Below w1.heap.size w1 W2:=by rw[aH];exact Qc _ _
 have m0:W2.cell? ⟨w1.heap.size,0,none⟩=some (.slice aq nq cq):=by rw[aH,World.cell?_alloc_at _ _ _ _ rfl];rfl
 have m1:W2.cell? ⟨w1.heap.size,1,none⟩=some (.slice ar nr cr):=by rw[aH,World.cell?_alloc_at _ _ _ _ rfl];rfl
 rw[<- aH];clear aH;replace hw:=Bl.up hw hb;replace vY:=vY.up hb;replace vQ:=vQ.up hb;replace vR:=vR.up hb;replace p0:=QaD hb p0;replace p3:=QaD hb p3;replace q3:=q3.up hb;replace r3:=r3.up hb;clear hb;generalize w1.heap.size=B7 at *;go_wp2_with fail;refine(Qbu _ aq nq cq fq _ q1 (by omega) q3 q4).mono ?_;rintro e w2 ⟨v,rfl,hv,hb⟩;rw[q5] at hv;obtain⟨s8,a8,n8,c8,rfl⟩:=hv.shape;replace hw:=Bl.up hw hb;replace vY:=vY.up hb;replace vQ:=vQ.up hb;replace vR:=vR.up hb;replace p0:=QaD hb p0;replace p3:=QaD hb p3;replace m1:=QaD hb m1;replace r3:=r3.up hb;clear hb q1 q2 q3 q4 q5 m0;go_upto_region 5 with fail;obtain⟨W3,aJ⟩:∃ W3,W3=w2.alloc (Qlr 33 s8 a8 n8 c8):=⟨_,rfl⟩;have hb:Below w2.heap.size w2 W3:=by rw[aJ];exact Qc _ _
 have v8:Vx W3 w2.heap.size (sg (!(decide (x<0) == decide (y<0))) (x.natAbs/y.natAbs)):=by rw[aJ];exact Vx.new rfl hv
 rw[<- aJ];clear aJ hv;have y8:=vR.lt;replace hw:=Bl.up hw hb;replace vY:=vY.up hb;replace vQ:=vQ.up hb;replace vR:=vR.up hb;replace p0:=QaD hb p0;replace p3:=QaD hb p3;replace m1:=QaD hb m1;replace r3:=r3.up hb;clear hb;generalize w2.heap.size=B8 at *;go_wp2_with fail;refine(Qbu _ ar nr cr fr _ r1 (by omega) r3 r4).mono ?_;rintro e w3 ⟨v,rfl,hv,hb⟩;rw[r5] at hv;obtain⟨s9,a9,n9,c9,rfl⟩:=hv.shape;replace hw:=Bl.up hw hb;replace vY:=vY.up hb;replace vQ:=vQ.up hb;replace vR:=vR.up hb;replace v8:=v8.up hb;replace p3:=QaD hb p3;clear hb r1 r2 r3 r4 r5 m1 p0;go_upto_region 6 with fail;obtain⟨W4,aI⟩:∃ W4,W4=w3.alloc (Qlr 33 s9 a9 n9 c9):=⟨_,rfl⟩;have hb:Below w3.heap.size w3 W4:=by rw[aI];exact Qc _ _
 have v9:Vx W4 w3.heap.size (sg (decide (x<0)) (x.natAbs%y.natAbs)):=by rw[aI];exact Vx.new rfl hv
 rw[<- aI];clear aI hv;have y9:=v8.lt;replace hw:=Bl.up hw hb;replace vY:=vY.up hb;replace vQ:=vQ.up hb;replace vR:=vR.up hb;replace v8:=v8.up hb;replace p3:=QaD hb p3;clear hb;generalize w3.heap.size=B9 at *
 have aR:sz (sg (decide (x<0)) (x.natAbs%y.natAbs))<=2199023255552:=by
  rw[QiE];exact Qt (Qa6 (Nat.mod_le _ _)) (Qt hsx (by decide))
 have aK:sz (sg (!(decide (x<0) == decide (y<0))) (x.natAbs/y.natAbs))<=2199023255552:=by
  rw[QiE];exact Qt (Qa6 (Nat.div_le_self _ _)) (Qt hsx (by decide))
 have aU:sz (y.natAbs:Int)<=2199023255552:=Qt (Nat.le_of_eq (QeS y)) (Qt hsy (by decide));clear hsx;obtain⟨aM,aS,aO,aP,e0,e1,e2,e3,aG⟩:=v9.cells;have es:=aG.sgn;by_cases hneg:sg (decide (x<0)) (x.natAbs%y.natAbs)<0
 ·obtain⟨v1,v2⟩:=QdH x y hy0 hneg;have V1:=Qh v1;have V2:=Qh v2;have aL:aM=true:=by rw[es];simpa using hneg
  subst aL;clear es hneg v1 v2;obtain⟨sy,ay,ny,ky,y0,y1,-,-,iy⟩:=vY.cells;clear p3;generalize sg (decide (x<0)) (x.natAbs%y.natAbs)=r0 at *;generalize sg (!(decide (x<0) == decide (y<0))) (x.natAbs/y.natAbs)=q0 at *;go_upto_region 7 with fail;refine QaT (by kernel_rfl) [4] (S:=fun w'=>w'.cell? ⟨B9,0,none⟩=some (.bool true)/\w'.cell? ⟨B9,1,none⟩=some (.slice aS aO aP)/\w'.cell? ⟨w.heap.size+1,0,none⟩=some (.bool sy)/\w'.cell? ⟨w.heap.size+1,1,none⟩=some (.slice ay ny ky)) ⟨e0,e1,y0,y1⟩ (fun aB=>?_);refine kL 0 rfl ?_;refine kL 1 rfl ?_;(refine oL 2 rfl fun K hK=>tL ?_;go_simp);refine(QcN _ y _ iy.drew (Qt hsy (by decide))).mono ?_;rintro e w4 ⟨r1,rfl,aE,hb⟩;obtain⟨s3,a3,n3,c3,rfl⟩:=aE.shape;replace e0:=QaD hb (Qa7 e0);replace e1:=QaD hb (Qa7 e1);replace y0:=QaD hb (Qa7 y0);replace y1:=QaD hb (Qa7 y1);replace aG:=aG.drew.up hb;replace hw:=Bl.up (Bl.drew hw) hb;replace vY:=vY.drew.up hb;replace vQ:=vQ.drew.up hb;replace vR:=vR.drew.up hb;replace v8:=v8.drew.up hb;replace v9:=v9.drew.up hb;clear hb;go_wp2_with fail;refine hK.out _ _ (fun _=>⟨e0,e1,y0,y1⟩) ?_;have aA:w4.cell? ⟨B9,0,none⟩=some (.bool true)/\w4.cell? ⟨B9,1,none⟩=some (.slice aS aO aP)/\w4.cell? ⟨w.heap.size+1,0,none⟩=some (.bool sy)/\w4.cell? ⟨w.heap.size+1,1,none⟩=some (.slice ay ny ky):=⟨e0,e1,y0,y1⟩;clear hK aB;refine tL ?_;(refine oL 3 rfl fun K hK=>tL ?_;go_simp);refine(QdN _ _ r0 (y.natAbs:Int) _ aG aE aR aU).mono ?_;rintro e w5 ⟨r2,rfl,aC,hb⟩;rw[V2.out] at aC;obtain⟨s4,a4,n4,c4,rfl⟩:=aC.shape;replace e0:=QaD hb e0;replace e1:=QaD hb e1;replace y0:=QaD hb y0;replace y1:=QaD hb y1;replace hw:=Bl.up hw hb;replace vY:=vY.up hb;replace vQ:=vQ.up hb;replace vR:=vR.up hb;replace v8:=v8.up hb;replace v9:=v9.up hb;clear hb aG;obtain⟨f2,f3⟩:=v9.va.free;go_wp2_with fail;refine hK.out _ _ (fun _=>⟨e0,e1,y0,y1⟩) ?_;clear hK aA;refine tL ?_;(refine oL 4 rfl fun K hK=>tL ?_;go_simp);go_wp2_with fail;refine hK.out _ _ nzz ?_;clear hK;refine tL ?_;refine QbJ (by kernel_rfl) ?_ _;have z8:=v8.lt;have w9:=Vx.put v9.va aC;have w8:=v8.other v9.va (s:=s4) (a:=a4) (n:=n4) (c:=c4) (by omega);have wY:=vY.other v9.va (s:=s4) (a:=a4) (n:=n4) (c:=c4) (by omega);have wQ:=vQ.other v9.va (s:=s4) (a:=a4) (n:=n4) (c:=c4) (by omega);have wR:=vR.other v9.va (s:=s4) (a:=a4) (n:=n4) (c:=c4) (by omega);have aD:=Bl.st hw (s:=s4) (a:=a4) (n:=n4) (c:=c4) (show w.heap.size<=B9 by omega);clear v8 v9 vY vQ vR hw e0 e1 e2 e3 y0 y1 f2 f3 aE aC iy;generalize (w5.setCell ⟨B9,0,none⟩ (.bool s4)).setCell ⟨B9,1,none⟩ (.slice a4 n4 c4)=wa at *;obtain⟨aT,ay,ny,ky,y0,y1,-,-,iy⟩:=wY.cells;have aF:aT=decide (y<0):=iy.sgn;obtain⟨s1,a1,n1,k1,f0,f1,f2,f3,i1⟩:=w8.cells;by_cases hyn:y<0
  ·rw[decide_eq_true hyn] at aF;subst aF;rw[Qbb hyn] at V1;go_upto_region 9 with fail;refine QaT (by kernel_rfl) [3] (S:=fun w'=>w'.cell? ⟨B8,0,none⟩=some (.bool s1)/\w'.cell? ⟨B8,1,none⟩=some (.slice a1 n1 k1)) ⟨f0,f1⟩ (fun aB=>?_);refine kL 0 rfl ?_;(refine oL 1 rfl fun K hK=>tL ?_;go_simp);refine(QaX 1 _ (by decide) (by decide)).mono ?_;rintro e w6 ⟨r1,rfl,aE,hb⟩;obtain⟨s3,a3,n3,c3,rfl⟩:=aE.shape;replace f0:=QaD hb (Qa7 f0);replace f1:=QaD hb (Qa7 f1);replace i1:=i1.drew.up hb;replace aD:=Bl.up (Bl.drew aD) hb;replace wQ:=wQ.drew.up hb;replace wR:=wR.drew.up hb;replace w8:=w8.drew.up hb;replace w9:=w9.drew.up hb;clear hb wY y0 y1 iy;go_wp2_with fail;refine hK.out _ _ (fun _=>⟨f0,f1⟩) ?_;have aA:w6.cell? ⟨B8,0,none⟩=some (.bool s1)/\w6.cell? ⟨B8,1,none⟩=some (.slice a1 n1 k1):=⟨f0,f1⟩;clear hK aB;refine tL ?_;(refine oL 2 rfl fun K hK=>tL ?_;go_simp);refine(QdN _ _ q0 1 _ i1 aE aK (by decide)).mono ?_;rintro e w7 ⟨r2,rfl,aC,hb⟩;rw[show q0+1=x/y by have:=V1.out;omega] at aC;obtain⟨s5,a5,n5,c5,rfl⟩:=aC.shape;replace f0:=QaD hb f0;replace f1:=QaD hb f1;replace aD:=Bl.up aD hb;replace wQ:=wQ.up hb;replace wR:=wR.up hb;replace w8:=w8.up hb;replace w9:=w9.up hb;clear hb i1 f2 f3;obtain⟨f2,f3⟩:=w8.va.free;go_wp2_with fail;refine hK.out _ _ (fun _=>⟨f0,f1⟩) ?_;clear hK aA;refine tL ?_;(refine oL 3 rfl fun K hK=>tL ?_;go_simp);go_wp2_with fail;refine hK.out _ _ nzz ?_;clear hK;refine tL ?_;refine QbJ (by kernel_rfl) ?_ _;have v8:=Vx.put w8.va aC;have v9:=w9.other w8.va (s:=s5) (a:=a5) (n:=n5) (c:=c5) (by omega);have vQ:=wQ.other w8.va (s:=s5) (a:=a5) (n:=n5) (c:=c5) (by omega);have vR:=wR.other w8.va (s:=s5) (a:=a5) (n:=n5) (c:=c5) (by omega);have hw:=Bl.st aD (s:=s5) (a:=a5) (n:=n5) (c:=c5) (show w.heap.size<=B8 by omega);clear w8 w9 wQ wR aD f0 f1 f2 f3 aE aC;generalize (w7.setCell ⟨B8,0,none⟩ (.bool s5)).setCell ⟨B8,1,none⟩ (.slice a5 n5 c5)=wc at *;obtain⟨s1,a1,n1,k1,f0,f1,f2,f3,i1⟩:=v8.cells;obtain⟨s2,a2,n2,k2,g0,g1,g2,g3,i2⟩:=v9.cells;obtain⟨s3,a3,n3,k3,l0,l1,l2,l3,i3⟩:=vQ.cells;obtain⟨s4,a4,n4,k4,m0,m1,m2,m3,i4⟩:=vR.cells;go_upto_region 11 with fail;go_region
   all_goals go_wp2_with fail
   all_goals (refine Qcm (B:=w.heap.size+1+1) (C:=w.heap.size+1+1+1) (y:=x/y) (z:=x%y) rfl rfl rfl rfl rfl ?_ ?_ (fun u v hu hv=>⟨u,v,rfl,hu,hv,?_⟩))
   all_goals exact QbY
  ·rw[decide_eq_false hyn] at aF;subst aF;rw[Qbc (by omega)] at V1;go_upto_region 10 with fail;refine QaT (by kernel_rfl) [3] (S:=fun w'=>w'.cell? ⟨B8,0,none⟩=some (.bool s1)/\w'.cell? ⟨B8,1,none⟩=some (.slice a1 n1 k1)) ⟨f0,f1⟩ (fun aB=>?_);refine kL 0 rfl ?_;(refine oL 1 rfl fun K hK=>tL ?_;go_simp);refine(QaX 1 _ (by decide) (by decide)).mono ?_;rintro e w6 ⟨r1,rfl,aE,hb⟩;obtain⟨s3,a3,n3,c3,rfl⟩:=aE.shape;replace f0:=QaD hb (Qa7 f0);replace f1:=QaD hb (Qa7 f1);replace i1:=i1.drew.up hb;replace aD:=Bl.up (Bl.drew aD) hb;replace wQ:=wQ.drew.up hb;replace wR:=wR.drew.up hb;replace w8:=w8.drew.up hb;replace w9:=w9.drew.up hb;clear hb wY y0 y1 iy;go_wp2_with fail;refine hK.out _ _ (fun _=>⟨f0,f1⟩) ?_;have aA:w6.cell? ⟨B8,0,none⟩=some (.bool s1)/\w6.cell? ⟨B8,1,none⟩=some (.slice a1 n1 k1):=⟨f0,f1⟩;clear hK aB;refine tL ?_;(refine oL 2 rfl fun K hK=>tL ?_;go_simp);refine(QfW _ _ q0 1 _ i1 aE aK (by decide)).mono ?_;rintro e w7 ⟨r2,rfl,aC,hb⟩;rw[show q0-1=x/y by have:=V1.out;omega] at aC;obtain⟨s5,a5,n5,c5,rfl⟩:=aC.shape;replace f0:=QaD hb f0;replace f1:=QaD hb f1;replace aD:=Bl.up aD hb;replace wQ:=wQ.up hb;replace wR:=wR.up hb;replace w8:=w8.up hb;replace w9:=w9.up hb;clear hb i1 f2 f3;obtain⟨f2,f3⟩:=w8.va.free;go_wp2_with fail;refine hK.out _ _ (fun _=>⟨f0,f1⟩) ?_;clear hK aA;refine tL ?_;(refine oL 3 rfl fun K hK=>tL ?_;go_simp);go_wp2_with fail;refine hK.out _ _ nzz ?_;clear hK;refine tL ?_;refine QbJ (by kernel_rfl) ?_ _;have v8:=Vx.put w8.va aC;have v9:=w9.other w8.va (s:=s5) (a:=a5) (n:=n5) (c:=c5) (by omega);have vQ:=wQ.other w8.va (s:=s5) (a:=a5) (n:=n5) (c:=c5) (by omega);have vR:=wR.other w8.va (s:=s5) (a:=a5) (n:=n5) (c:=c5) (by omega);have hw:=Bl.st aD (s:=s5) (a:=a5) (n:=n5) (c:=c5) (show w.heap.size<=B8 by omega);clear w8 w9 wQ wR aD f0 f1 f2 f3 aE aC;generalize (w7.setCell ⟨B8,0,none⟩ (.bool s5)).setCell ⟨B8,1,none⟩ (.slice a5 n5 c5)=wc at *;obtain⟨s1,a1,n1,k1,f0,f1,f2,f3,i1⟩:=v8.cells;obtain⟨s2,a2,n2,k2,g0,g1,g2,g3,i2⟩:=v9.cells;obtain⟨s3,a3,n3,k3,l0,l1,l2,l3,i3⟩:=vQ.cells;obtain⟨s4,a4,n4,k4,m0,m1,m2,m3,i4⟩:=vR.cells;go_upto_region 11 with fail;go_region
   all_goals go_wp2_with fail
   all_goals (refine Qcm (B:=w.heap.size+1+1) (C:=w.heap.size+1+1+1) (y:=x/y) (z:=x%y) rfl rfl rfl rfl rfl ?_ ?_ (fun u v hu hv=>⟨u,v,rfl,hu,hv,?_⟩))
   all_goals exact QbY
 ·obtain⟨v1,v2⟩:=Qdn x y hy0 hneg;rw[v1] at v8;rw[v2] at v9 aG;have aL:aM=false:=by rw[es];simpa using hneg
  subst aL;clear es hneg v1 v2 aK aR p3 vY;obtain⟨s1,a1,n1,k1,f0,f1,f2,f3,i1⟩:=v8.cells;obtain⟨s2,a2,n2,k2,g0,g1,g2,g3,i2⟩:=v9.cells;obtain⟨s3,a3,n3,k3,l0,l1,l2,l3,i3⟩:=vQ.cells;obtain⟨s4,a4,n4,k4,m0,m1,m2,m3,i4⟩:=vR.cells;go_upto_region 11 with fail;go_region
  all_goals go_wp2_with fail
  all_goals (refine Qcm (B:=w.heap.size+1+1) (C:=w.heap.size+1+1+1) (y:=x/y) (z:=x%y) rfl rfl rfl rfl rfl ?_ ?_ (fun u v hu hv=>⟨u,v,rfl,hu,hv,?_⟩))
  all_goals exact QbY
theorem Qf4 (va vb:Value) (x y:Int) (w:World) (hx:It w va x) (hy:It w vb y) (hy0:y≠0) (hsx:sz x<=1099511627776) (hsy:sz y<=1099511627776) :
  Calls Tryz.prog 56 #[va,vb] w fun e w'=>∃ v,e=.returned v/\It w' v (x/y)/\Below w.heap.size w w':=by
 obtain⟨W,s1,a1,n1,c1,s2,a2,n2,c2,rfl,rfl,hW,b,vX,vY,vR,hs,p0,p1,q0,q1,aC,aB⟩:=Qch w hx hy;clear hx hy;go_enter Tryz.func56,Tryz.ntmps56
 go_wp2_with fail;rw[<- hW];clear hW;refine(Qda _ _ x y W aC aB hy0 hsx hsy).mono ?_;rintro e w1 ⟨vq,vr,rfl,hq,hr,aA⟩;have z1:=aA.size;rw[hs] at z1;obtain⟨sq,aq,nq,cq,rfl⟩:=hq.shape;obtain⟨sr,ar,nr,cr,rfl⟩:=hr.shape;replace vR:=vR.up aA;have aD:=Bl.up b aA;obtain⟨s3,a3,n3,k3,g0,g1,g2,g3,-⟩:=vR.cells;have t3:=vR.lt;have t4:w.heap.size+1+1<=w1.heap.size:=Nat.le_of_lt t3;have t5:w.heap.size+1<w1.heap.size:=t4;clear p0 p1 q0 q1 vX vY hr;go_wp2_with fail;refine Qbl (B:=w.heap.size+1+1) (z:=x/y) rfl rfl rfl ?_ (fun v hv=>⟨v,rfl,hv,?_⟩)
 all_goals exact QbY
theorem QiR (va vb:Value) (x y:Int) (w:World) (hx:It w va x) (hy:It w vb y) (hy0:y≠0) (hsx:sz x<=1099511627776) (hsy:sz y<=1099511627776) :
  Calls Tryz.prog 114 #[va,vb] w fun e w'=>∃ v,e=.returned v/\It w' v (x%y)/\Below w.heap.size w w':=by
 obtain⟨W,s1,a1,n1,c1,s2,a2,n2,c2,rfl,rfl,hW,b,vX,vY,vR,hs,p0,p1,q0,q1,aC,aB⟩:=Qch w hx hy;clear hx hy;go_enter Tryz.func114,Tryz.ntmps114
 go_wp2_with fail;rw[<- hW];clear hW;refine(Qda _ _ x y W aC aB hy0 hsx hsy).mono ?_;rintro e w1 ⟨vq,vr,rfl,hq,hr,aA⟩;have z1:=aA.size;rw[hs] at z1;obtain⟨sq,aq,nq,cq,rfl⟩:=hq.shape;obtain⟨sr,ar,nr,cr,rfl⟩:=hr.shape;replace vR:=vR.up aA;have aD:=Bl.up b aA;obtain⟨s3,a3,n3,k3,g0,g1,g2,g3,-⟩:=vR.cells;have t3:=vR.lt;have t4:w.heap.size+1+1<=w1.heap.size:=Nat.le_of_lt t3;have t5:w.heap.size+1<w1.heap.size:=t4;clear p0 p1 q0 q1 vX vY hq;go_wp2_with fail;refine Qbl (B:=w.heap.size+1+1) (z:=x%y) rfl rfl rfl ?_ (fun v hv=>⟨v,rfl,hv,?_⟩)
 all_goals exact QbY
