/-
  What comes into DescentMatchesReference.
-/
import Derived.Test.YteidokhjmbihlaaGreatFY
import Derived.Test.YteidokhjmbihlaaGreatDZB
set_option linter.all false
set_option maxRecDepth 100000
namespace Go.Proofs.YteidokhjmbihlaaGreat
open Go.ChangeShapes Go.WideShapes Go.ChangeAt Go.RowKit Go.Deep
theorem Qj8 {z:Int} (h:(Lit.int .u32 z).wf=true):0<=z/\z<=4294967295:=by
 simpa [Lit.wf,IntKind.min,IntKind.max,IntKind.signed,IntKind.bits] using h
theorem Qgi:Tryz.prog.cellsOf 139=1:=by kernel_rfl
theorem Qe0:Tryz.prog.cellsOf 4=1:=by kernel_rfl
theorem Qi0:Tryz.prog.cellsOf 26=1:=by kernel_rfl
variable {H:Type} {enc:TypeId×Value->H} {w:World}
theorem Qgz {fuel:Nat} {x:DataW H×List MemPlace} {c2 c3:Value} (h:DataW.trod enc Tryz.prog w 0 (fun _=>true) true fuel 28 [c2,c3]=some x) :
  ∃ s a n c,c2=.bool s/\c3=.slice a n c/\Nxn w (Qlv s a n c):=by
 obtain⟨y0,y1,n,-,-,h0,h1⟩:=trod_struct2 Tryz.underlying28 h;replace h0:DataW.trod enc Tryz.prog w 0 (fun _=>true) true n 4 (List.take (Tryz.prog.cellsOf 4) [c2,c3])=some y0:=h0;replace h1:DataW.trod enc Tryz.prog w 0 (fun _=>true) true n 26 (List.take (Tryz.prog.cellsOf 26) [c3])=some y1:=h1;rw[Qe0] at h0;rw[Qi0] at h1;obtain⟨s,e0,-⟩:=DataW.trod_bool Tryz.underlying4 h0;injection e0 with e0;rcases open_ints Tryz.underlying26 Tryz.underlying139 Qgi h1 with ⟨hcs,-⟩|⟨a,len,cap,zs,hcs,-,hl,hm,hz,-,hcell,hwz⟩
 ·injection hcs with hcs;exact⟨s,none,0,0,e0,hcs,s,none,0,0,fun _=>0,rfl,.inl rfl,fun i hi=>absurd hi (Nat.not_lt_zero _),Nat.le_refl _,by decide⟩
 ·injection hcs with hcs;have aB:len<=zs.length:=by rw[hz];split <;> omega
  have aA:∀ i,i<zs.length->0<=zs.getD i 0/\zs.getD i 0<=4294967295:=fun i hi=>by
   have:=hwz (zs.getD i 0) (by rw[Zk3,Zk4 hi];exact List.getElem_mem hi);exact Qj8 this
  refine⟨s,some a,len,cap,e0,hcs,s,some a,len,cap,fun i=>(zs.getD i 0).toNat,rfl,?_,fun i hi=>?_,hl,by unfold maxLen at hm;omega⟩
  ·refine(Qj6 aB hcell).congr fun i hi=>?_;have:=aA i (by omega);show Value.int .u32 (zs.getD i 0)=Value.int .u32 (((zs.getD i 0).toNat:Nat):Int)
   rw[Int.toNat_of_nonneg this.1]
  ·have:=aA i (by omega);show (zs.getD i 0).toNat<4294967296
   omega
theorem Nxn.nq {w:World} {s:Bool} {a:Option Addr} {n c:Nat} (h:Nxn w (Qlv s a n c)):∃ f,Nq w a n c f:=by
 obtain⟨s',a',n',c',f,e,h1,h2,h3,h4⟩:=h;injection e with e;simp only[Array.mk.injEq,List.cons.injEq,and_true] at e;obtain⟨-,e⟩:=e;injection e with e1 e2 e3;subst e1 e2 e3;exact⟨f,h1,h2,h3,h4⟩
