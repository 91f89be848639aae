/-
  The reference's numbers: Made, from a description.
-/
import Derived.Test.YteidokhjmbihlaaGreatFL1
import Derived.Test.YteidokhjmbihlaaGreatFF
import Derived.Test.YteidokhjmbihlaaGreatFG1
import Derived.Test.YteidokhjmbihlaaGreatFO1
import Derived.Test.YteidokhjmbihlaaGreatDL
set_option linter.all false
set_option maxRecDepth 100000
set_option maxHeartbeats 2000000
namespace Go.Proofs.YteidokhjmbihlaaGreat
open Go.RowKit
attribute [local go_sem ↓] Go.wp_at_zero Go.wp_at_succ
theorem QiK {w:World} (t ty:TypeId) (ht:Tryz.prog.underlying t=some (.slice 139)) (b a:Option Addr) (n c:Nat) {f:Nat->Nat} (hW:Wd w a n f) (hn:n<=2) :
  ∃ a' cap w',(Builtin.append_ #[t,t] ty #[.slice b 0 0,.slice a n c]).run Tryz.prog w=.ok (.slice a' n cap) w'/\Wd w' a' n f/\n<=cap/\Below w.heap.size w w':=by
 obtain⟨i0,hi,aE,aD,aC⟩:=info_parts Qgr;rcases hW with h0|⟨bb,off,rfl,hlt,hc⟩
 ·subst h0;exact⟨b,0,w,Qfq w t ty _ i0 ht hi b 0 0 (Nat.le_refl _) a c,.inl rfl,Nat.le_refl _,Below.refl _ _⟩
 ·rcases Nat.eq_zero_or_pos n with h0|h0
  ·subst h0;exact⟨b,0,w,Qfq w t ty _ i0 ht hi b 0 0 (Nat.le_refl _) _ c,.inl rfl,Nat.le_refl _,Below.refl _ _⟩
  ·have aF:((List.range n).map (wv f)).length=n*i0.size:=by rw[aD];simp
   have hs:=Src.ofSlice (P:=Tryz.prog) w (size:=i0.size) (tx:=t) ht ⟨bb,off,none⟩ n c ((List.range n).map (wv f)) aF (fun j u e=>by
    have hj:j<n:=by have:=(List.getElem?_eq_some_iff.1 e).1;simpa using this
    have e':wv f j=u:=by simpa [hj] using e
    have h1:=hc j hj
    have ea:(⟨bb,off,none⟩:Addr).add j=⟨bb,off+j,none⟩:=by
     unfold Addr.add;split
     ·rename_i h;subst h;rfl
     ·rfl
    rw[ea,h1,e']) (fun u hU=>by obtain⟨j,-,rfl⟩:=List.mem_map.1 hU;rfl)
   have aA:(Builtin.firstCells i0.size 0 (.slice b 0 0)).run Tryz.prog w.drew=.ok ([]:List Value).toArray w.drew:=by
    cases b with
    | none=>exact run_firstCells_none w.drew i0.size 0 0 0
    | some a=>exact run_firstCells_some w.drew i0.size 0 a 0 0 [] (by simp) (by simp)
   have aB:Builtin.nextslicecap (0+n) 0*i0.bytes<=281474976710656:=by
    rw[aC];obtain rfl|rfl:n=1\/n=2:=by omega
    ·decide
    ·decide
   have hr:=run_append_grow_src w t t ty 139 i0 _ ht hi aE b 0 0 [] aA _ n _ hs (by omega) (by omega) aB;rw[Nat.zero_add] at hr;refine⟨_,_,_,hr,.inr ⟨w.heap.size,0,rfl,by rw[Zk2];exact Nat.lt_succ_self _,fun j hj=>?_⟩,grownCap_ge _ _ _ _,(Below.refl _ w).drew.trans (Qc w.drew _)⟩;show (w.drew.alloc _).cell? ⟨w.drew.heap.size,0+j,none⟩=_
   rw[World.cell?_alloc_at _ _ _ _ rfl,Nat.zero_add];rw[Array.getElem?_append_left (by simpa using hj)];simp[hj]
theorem QgO {ops:Array Oper} {o:Oper} {a:Act} {K:Act->World->Prop} {Q:Exit->Act->World->Prop} {F:Prop} {w:World} (hgd:o.guard=none) (su sx:Operand) (t:TypeId)
  (ho:o.op=.call { callee:=.builtin .append,args:=#[su,sx],argTypes:=#[t,t] }) (ht:Tryz.prog.underlying t=some (.slice 139)) (b aa:Option Addr) (n c:Nat) (hs:a.eval su=.slice b 0 0) (hxv:a.eval sx=.slice aa n c) {f:Nat->Nat} (hW:Wd w aa n f) (hn:n<=2)
  (hK:∀ a' cap w',Wd w' a' n f->n<=cap->Below w.heap.size w w'->K (a.put o.dst (.slice a' n cap)) w') :
  if Region.wanted o (yielded ops a.tmps)=true then Oper.wp Tryz.prog o a w K Q else F:=by
 have hw:Region.wanted o (yielded ops a.tmps)=true:=by simp[Region.wanted,hgd]
 rw[if_pos hw];obtain⟨a',cap,w',hr,h2,h3,h4⟩:=QiK t o.type ht b aa n c hW hn;unfold Oper.wp execOp;simp only[ho,resolve,invoke,builtin,Sem.run_bind,Sem.run_pure,Result.andThen_ok,List.map_toArray,List.map_cons,List.map_nil,hs,hxv,hr];exact hK a' cap w' h2 h3 h4
def Nxn (w:World) (v:Value):Prop:=∃ s a n c f,v=.agg #[.bool s,.slice a n c]/\Wd w a n f/\Wf f n/\n<=c/\c<=9223372036854775807
theorem Nxn.up {w w':World} {v:Value} (h:Nxn w v) (hb:Below w.heap.size w w'):Nxn w' v:=by
 obtain⟨s,a,n,c,f,rfl,h1,h2,h3,h4⟩:=h;exact⟨s,a,n,c,f,rfl,Wd.up h1 hb,h2,h3,h4⟩
theorem Qjk {s:Bool} {f:Nat->Nat} {m:Nat} (hf:Wf f m) (hm:m<=2):sz (sg s (nv f m))<=2:=by
 have h1:=Qbk hf
 have h2:nv f m<2 ^ 64:=Nat.lt_of_lt_of_le h1 (by
  obtain rfl|rfl|rfl:m=0\/m=1\/m=2:=by omega
  ·decide
  ·decide
  ·decide)
 have h3:(sg s (nv f m)).natAbs=((nv f m:Nat):Int).natAbs:=by unfold sg;cases s <;> simp
 have h4:sz (sg s (nv f m))=sz ((nv f m:Nat):Int):=Nat.le_antisymm (Y2 (by rw[h3];exact Nat.le_refl _)) (Y2 (by rw[h3];exact Nat.le_refl _));rw[h4];exact JC (k:=2) (e:=64) rfl (Nat.le_refl _) h2
theorem Qc9 (k:Nat) (hk:k<=2) (s:Bool) (a:Option Addr) (n c:Nat) (f:Nat->Nat) (w:World) (hW:Wd w a n f) (hf:Wf f n) (hnc:n<=c) (hcm:c<=9223372036854775807) :
  Calls Tryz.prog 14 #[.agg #[.bool s,.slice a n c],.int .i64 (k:Int)] w fun e w'=>∃ v,e=.returned v/\It w' v (sg s (nv f (min n k)))/\Below w.heap.size w w':=by
 go_enter Tryz.func14,Tryz.ntmps14
 go_upto_region 1 with fail;have hb:=Bl.alloc (Qc w (Qlr 28 s a n c)) (Qlr 33 false none 0 0);have hV:=Vx.new0 (w:=w.alloc (Qlr 28 s a n c)) (T:=33) (B:=w.heap.size+1) (by simp);have hD:=Zk1 w (Qlr 28 s a n c);have aG:=((Qc (w.alloc (Qlr 28 s a n c)) (Qlr 33 false none 0 0)).block _ (Ql hD).1).trans hD;have aK:=Wd.up hW hb;clear hW hD;generalize (w.alloc (Qlr 28 s a n c)).alloc (Qlr 33 false none 0 0)=W at *;have p0:W.cell? ⟨w.heap.size,0,none⟩=some (.bool s):=by simp[World.cell?,aG]
 have p1:W.cell? ⟨w.heap.size,1,none⟩=some (.slice a n c):=by simp[World.cell?,aG]
 obtain⟨m,hm⟩:∃ m,min n k=m:=⟨_,rfl⟩;have aL:min (n:Int) (k:Int)=(m:Int):=by omega
 have aM:m<=2/\m<=n:=by omega
 have m0:(0:Int)<=(m:Int):=by omega
 have m1:(m:Int)<=(c:Int):=by omega
 have aQ:=Qh hm;clear hm aG;refine QaT (by kernel_rfl) [13] (S:=fun w'=>w'.cell? ⟨w.heap.size,0,none⟩=some (.bool s)/\w'.cell? ⟨w.heap.size,1,none⟩=some (.slice a n c)) ⟨p0,p1⟩ (fun aA=>?_);refine pL 0 rfl ?_;refine kL 1 rfl ?_;refine pL 3 rfl ?_;refine kL 4 rfl ?_;refine pL 5 rfl ?_;refine kL 6 rfl ?_;(refine pL 7 rfl ?_;refine pL 8 rfl ?_;refine pL 9 rfl ?_;refine pL 10 rfl ?_)
 (refine oL 2 rfl fun K hK=>tL ?_;go_simp);have aC:=Bl.alloc (Bl.drew hb) (.cells #[] 139);have aB:=(hV.up (Below.refl _ _).drew).alloc (.cells #[] 139);have aJ:=Wd.up aK ((Below.refl _ _).drew.trans (Qc W.drew (.cells #[] 139)));replace p0:=QbE (Qa7 p0) (.cells #[] 139);replace p1:=QbE (Qa7 p1) (.cells #[] 139);(go_wp2_with fail;clear aA;refine nxL hK ⟨p0,p1⟩ fun aA=>tL ?_;clear hK)
 have aH:Wd (W.drew.alloc (.cells #[] 139)) a m f:=by
  rcases aJ with h0|⟨bb,off,e,hl,hc⟩
  ·exact .inl (by omega)
  ·exact .inr ⟨bb,off,e,hl,fun i hi=>hc i (by omega)⟩
 refine Qbh (i:=11) (by as_aux_lemma=>kernel_rfl) rfl (fun K hK=>?_);refine QgO (by rfl) (.tmp 7) (.tmp 15) _ (by rfl) Tryz.underlying26 _ a m c (by rfl) (by rfl) aH aM.1 ?_;intro a' aO w4 aI aE aF;replace aC:=Bl.up aC aF;replace aB:=aB.up aF;replace p0:=QaD aF p0;replace p1:=QaD aF p1;refine hK.out _ _ (fun _=>⟨p0,p1⟩) ?_;clear hK aA aF aK aJ aH hV hb;have aA:(fun w':World=>w'.cell? ⟨w.heap.size,0,none⟩=some (.bool s)/\w'.cell? ⟨w.heap.size,1,none⟩=some (.slice a n c)) w4:=⟨p0,p1⟩;refine tL ?_;(refine oL 12 rfl fun K hK=>tL ?_;go_simp);refine mn (Qbu s a' m aO f w4 aE (by omega) aI (fun i hi=>hf i (by omega))) fun v w5 hv hb5=>?_;obtain⟨s5,a5,n5,c5,rfl⟩:=hv.shape;replace aC:=Bl.up aC hb5;replace aB:=aB.up hb5;replace p0:=QaD hb5 p0;replace p1:=QaD hb5 p1;rw[<- aQ.out] at hv;obtain⟨y1,y2,y3,y4,z0,z1,z2,z3,-⟩:=aB.cells;have aP:=Qh aB;have HV:=Qh hv;have HB:=Qh aC;clear hb5 aB hv aC aI aE;(go_wp2_with fail;clear aA;refine nxL hK ⟨p0,p1⟩ fun aA=>tL ?_;clear hK);(refine oL 13 rfl fun K hK=>tL ?_;go_simp);(go_wp2_with fail;refine xL hK (tL ?_);clear hK);refine dT ?_;clear z0 z1 z2 z3 p0 p1 aA;have aD:=Vx.put aP.out.va HV.out;obtain⟨r1,r2,r3,r4,y0,y1,-,-,ix⟩:=aD.cells;go_wp2_with fail;exact Qbl (B:=w.heap.size+1) rfl rfl rfl aD (fun v hv=>⟨v,rfl,hv,Bl.st HB.out (by omega)⟩)
