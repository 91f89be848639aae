/-
  The reference's numbers: Made, from a description.
-/
import Derived.Test.YteidokhjmbihlaaGreatFL1
import Derived.Test.YteidokhjmbihlaaGreatFF
import Derived.Test.YteidokhjmbihlaaGreatFG1
import Derived.Test.YteidokhjmbihlaaGreatFO1
set_option linter.all false
set_option maxRecDepth 100000
set_option maxHeartbeats 2000000
namespace Go.Proofs.YteidokhjmbihlaaGreat
open Go.RowKit
attribute [local go_sem ↓] Go.wp_at_zero Go.wp_at_succ
theorem Qis {w:World} (t ty:TypeId) (ht:Tryz.prog.underlying t=some (.slice 139)) (b a:Option Addr) (n c:Nat) {f:Nat->Nat} (hW:Wd w a n f) (hn:n<=2) :
  ∃ a' cap w',(Builtin.append_ #[t,t] ty #[.slice b 0 0,.slice a n c]).run Tryz.prog w=.ok (.slice a' n cap) w'/\Wd w' a' n f/\n<=cap/\Below w.heap.size w w':=by
 obtain⟨i0,hi,hz0,hz1,hz2⟩:=info_parts Qfh;rcases hW with h0|⟨bb,off,rfl,hlt,hc⟩
 ·subst h0;exact⟨b,0,w,QdH w t ty _ i0 ht hi b 0 0 (Nat.le_refl _) a c,.inl rfl,Nat.le_refl _,Below.refl _ _⟩
 ·rcases Nat.eq_zero_or_pos n with h0|h0
  ·subst h0;exact⟨b,0,w,QdH w t ty _ i0 ht hi b 0 0 (Nat.le_refl _) _ c,.inl rfl,Nat.le_refl _,Below.refl _ _⟩
  ·have hnl:((List.range n).map (wv f)).length=n*i0.size:=by rw[hz1];simp
   have hs:=Src.ofSlice (P:=Tryz.prog) w (size:=i0.size) (tx:=t) ht ⟨bb,off,none⟩ n c ((List.range n).map (wv f)) hnl (fun j u e=>by
    have hj:j<n:=by have:=(List.getElem?_eq_some_iff.1 e).1;simpa using this
    have e':wv f j=u:=by simpa [hj] using e
    have h1:=hc j hj
    have ea:(⟨bb,off,none⟩:Addr).add j=⟨bb,off+j,none⟩:=by
     unfold Addr.add;split
     ·rename_i h;subst h;rfl
     ·rfl
    rw[ea,h1,e']) (fun u hu=>by obtain⟨j,-,rfl⟩:=List.mem_map.1 hu;rfl)
   have hold:(Builtin.firstCells i0.size 0 (.slice b 0 0)).run Tryz.prog w.drew=.ok ([]:List Value).toArray w.drew:=by
    cases b with
    | none=>exact run_firstCells_none w.drew i0.size 0 0 0
    | some a=>exact run_firstCells_some w.drew i0.size 0 a 0 0 [] (by simp) (by simp)
   have hfit:Builtin.nextslicecap (0+n) 0*i0.bytes<=281474976710656:=by
    rw[hz2];obtain rfl|rfl:n=1\/n=2:=by omega
    ·decide
    ·decide
   have hr:=run_append_grow_src w t t ty 139 i0 _ ht hi hz0 b 0 0 [] hold _ n _ hs (by omega) (by omega) hfit;rw[Nat.zero_add] at hr;refine⟨_,_,_,hr,.inr ⟨w.heap.size,0,rfl,by rw[World.size_alloc];exact Nat.lt_succ_self _,fun j hj=>?_⟩,grownCap_ge _ _ _ _,(Below.refl _ w).drew.trans (Qa w.drew _)⟩;show (w.drew.alloc _).cell? ⟨w.drew.heap.size,0+j,none⟩=_
   rw[World.cell?_alloc_at _ _ _ _ rfl,Nat.zero_add];rw[Array.getElem?_append_left (by simpa using hj)];simp[hj]
theorem Qgz {ops:Array Oper} {o:Oper} {a:Act} {K:Act->World->Prop} {Q:Exit->Act->World->Prop} {F:Prop} {w:World} (hgd:o.guard=none) (su sx:Operand) (t:TypeId)
  (ho:o.op=.call { callee:=.builtin .append,args:=#[su,sx],argTypes:=#[t,t] }) (ht:Tryz.prog.underlying t=some (.slice 139)) (b aa:Option Addr) (n c:Nat) (hs:a.eval su=.slice b 0 0) (hxv:a.eval sx=.slice aa n c) {f:Nat->Nat} (hW:Wd w aa n f) (hn:n<=2)
  (hK:∀ a' cap w',Wd w' a' n f->n<=cap->Below w.heap.size w w'->K (a.put o.dst (.slice a' n cap)) w') :
  if Region.wanted o (yielded ops a.tmps)=true then Oper.wp Tryz.prog o a w K Q else F:=by
 have hw:Region.wanted o (yielded ops a.tmps)=true:=by simp[Region.wanted,hgd]
 rw[if_pos hw];obtain⟨a',cap,w',hr,h2,h3,h4⟩:=Qis t o.type ht b aa n c hW hn;unfold Oper.wp execOp;simp only[ho,resolve,invoke,builtin,Sem.run_bind,Sem.run_pure,Result.andThen_ok,List.map_toArray,List.map_cons,List.map_nil,hs,hxv,hr];exact hK a' cap w' h2 h3 h4
def Nx (w:World) (v:Value):Prop:=∃ s a n c f,v=.agg #[.bool s,.slice a n c]/\Wd w a n f/\Wf f n/\n<=c/\c<=9223372036854775807
theorem Nx.up {w w':World} {v:Value} (h:Nx w v) (hb:Below w.heap.size w w'):Nx w' v:=by
 obtain⟨s,a,n,c,f,rfl,h1,h2,h3,h4⟩:=h;exact⟨s,a,n,c,f,rfl,Wd.up h1 hb,h2,h3,h4⟩
theorem Qgg {s:Bool} {f:Nat->Nat} {m:Nat} (hf:Wf f m) (hm:m<=2):sz (sg s (nv f m))<=2:=by
 have h1:=Q3 hf
 have h2:nv f m<2 ^ 64:=Nat.lt_of_lt_of_le h1 (by
  obtain rfl|rfl|rfl:m=0\/m=1\/m=2:=by omega
  ·decide
  ·decide
  ·decide)
 have h3:(sg s (nv f m)).natAbs=((nv f m:Nat):Int).natAbs:=by unfold sg;cases s <;> simp
 have h4:sz (sg s (nv f m))=sz ((nv f m:Nat):Int):=Nat.le_antisymm (QB (by rw[h3];exact Nat.le_refl _)) (QB (by rw[h3];exact Nat.le_refl _));rw[h4];exact QeO (k:=2) (e:=64) rfl (Nat.le_refl _) h2
theorem Qd7 (k:Nat) (hk:k<=2) (s:Bool) (a:Option Addr) (n c:Nat) (f:Nat->Nat) (w:World) (hW:Wd w a n f) (hf:Wf f n) (hnc:n<=c) (hcm:c<=9223372036854775807) :
  Calls Tryz.prog 14 #[.agg #[.bool s,.slice a n c],.int .i64 (k:Int)] w fun e w'=>∃ v,e=.returned v/\It w' v (sg s (nv f (min n k)))/\Below w.heap.size w w':=by
 go_enter Tryz.func14,Tryz.ntmps14
 go_upto_region 1 with fail;have hb:=Bl.alloc (Qa w (.cells #[.bool s,.slice a n c] 28)) (.cells #[.bool false,.slice none 0 0] 33);have hV:=Vx.new0 (w:=w.alloc (.cells #[.bool s,.slice a n c] 28)) (T:=33) (B:=w.heap.size+1) (by simp);have hD:=heap_alloc_new w (.cells #[.bool s,.slice a n c] 28);have hD2:=((Qa (w.alloc (.cells #[.bool s,.slice a n c] 28)) (.cells #[.bool false,.slice none 0 0] 33)).block _ (Ql hD).1).trans hD;have hW2:=Wd.up hW hb;clear hW hD;generalize (w.alloc (.cells #[.bool s,.slice a n c] 28)).alloc (.cells #[.bool false,.slice none 0 0] 33)=W at *;have p0:W.cell? ⟨w.heap.size,0,none⟩=some (.bool s):=by simp[World.cell?,hD2]
 have p1:W.cell? ⟨w.heap.size,1,none⟩=some (.slice a n c):=by simp[World.cell?,hD2]
 obtain⟨m,hm⟩:∃ m,min n k=m:=⟨_,rfl⟩;have hmin:min (n:Int) (k:Int)=(m:Int):=by omega
 have hm2:m<=2/\m<=n:=by omega
 have m0:(0:Int)<=(m:Int):=by omega
 have m1:(m:Int)<=(c:Int):=by omega
 have HMM:=Qh hm;clear hm hD2;refine Qc (by kernel_rfl) [13] (S:=fun w'=>w'.cell? ⟨w.heap.size,0,none⟩=some (.bool s)/\w'.cell? ⟨w.heap.size,1,none⟩=some (.slice a n c)) ⟨p0,p1⟩ (fun hHeld=>?_);refine pL 0 rfl ?_;refine kL 1 rfl ?_;refine pL 3 rfl ?_;refine kL 4 rfl ?_;refine pL 5 rfl ?_;refine kL 6 rfl ?_;(refine pL 7 rfl ?_;refine pL 8 rfl ?_;refine pL 9 rfl ?_;refine pL 10 rfl ?_)
 (refine oL 2 rfl fun K hK=>tL ?_;go_simp);have hb2:=Bl.alloc (Bl.drew hb) (.cells #[] 139);have hV2:=(hV.up (Below.refl _ _).drew).alloc (.cells #[] 139);have hW3:=Wd.up hW2 ((Below.refl _ _).drew.trans (Qa W.drew (.cells #[] 139)));replace p0:=Ym (Qy p0) (.cells #[] 139);replace p1:=Ym (Qy p1) (.cells #[] 139);(go_wp2_with fail;clear hHeld;refine nxL hK ⟨p0,p1⟩ fun hHeld=>tL ?_;clear hK)
 have hWm:Wd (W.drew.alloc (.cells #[] 139)) a m f:=by
  rcases hW3 with h0|⟨bb,off,e,hl,hc⟩
  ·exact .inl (by omega)
  ·exact .inr ⟨bb,off,e,hl,fun i hi=>hc i (by omega)⟩
 refine QS (i:=11) (by as_aux_lemma=>kernel_rfl) rfl (fun K hK=>?_);refine Qgz (by rfl) (.tmp 7) (.tmp 15) _ (by rfl) Tryz.underlying26 _ a m c (by rfl) (by rfl) hWm hm2.1 ?_;intro a' cap w4 hW4 hcap hb4;replace hb2:=Bl.up hb2 hb4;replace hV2:=hV2.up hb4;replace p0:=Qb hb4 p0;replace p1:=Qb hb4 p1;refine hK.out _ _ (fun _=>⟨p0,p1⟩) ?_;clear hK hHeld hb4 hW2 hW3 hWm hV hb;have hHeld:(fun w':World=>w'.cell? ⟨w.heap.size,0,none⟩=some (.bool s)/\w'.cell? ⟨w.heap.size,1,none⟩=some (.slice a n c)) w4:=⟨p0,p1⟩;refine tL ?_;(refine oL 12 rfl fun K hK=>tL ?_;go_simp);refine(Yd s a' m cap f w4 hcap (by omega) hW4 (fun i hi=>hf i (by omega))).mono ?_;rintro e w5 ⟨v,rfl,hv,hb5⟩;obtain⟨s5,a5,n5,c5,rfl⟩:=hv.shape;replace hb2:=Bl.up hb2 hb5;replace hV2:=hV2.up hb5;replace p0:=Qb hb5 p0;replace p1:=Qb hb5 p1;rw[<- HMM.out] at hv;obtain⟨y1,y2,y3,y4,z0,z1,z2,z3,-⟩:=hV2.cells;have HV2:=Qh hV2;have HV:=Qh hv;have HB:=Qh hb2;clear hb5 hV2 hv hb2 hW4 hcap;(go_wp2_with fail;clear hHeld;refine nxL hK ⟨p0,p1⟩ fun hHeld=>tL ?_;clear hK);(refine oL 13 rfl fun K hK=>tL ?_;go_simp);(go_wp2_with fail;refine xL hK (tL ?_);clear hK);refine dT ?_;clear z0 z1 z2 z3 p0 p1 hHeld;have hfin:=Vx.put HV2.out.va HV.out;obtain⟨r1,r2,r3,r4,y0,y1,-,-,ix⟩:=hfin.cells;go_wp2_with fail;exact Q0 (B:=w.heap.size+1) rfl rfl rfl hfin (fun v hv=>⟨v,rfl,hv,Bl.st HB.out (by omega)⟩)
