/-
  The law DescentMatchesReference holds: for all inputs it returns true, and its arguments read afterwards as before.
-/
import Derived.Test.YteidokhjmbihlaaGreatDYL
import Derived.Test.YteidokhjmbihlaaGreatFY
import Derived.Test.YteidokhjmbihlaaGreatDZB
set_option linter.all false
set_option maxRecDepth 100000
namespace Go.Proofs.YteidokhjmbihlaaGreat
open Go.ChangeShapes Go.WideShapes Go.ChangeAt Go.RowKit Go.Deep
theorem Qku {z:Int} (h:(Lit.int .u32 z).wf=true):0<=z/\z<=4294967295:=by
 simpa [Lit.wf,IntKind.min,IntKind.max,IntKind.signed,IntKind.bits] using h
theorem QeY:Tryz.prog.cellsOf 139=1:=by kernel_rfl
theorem Qe9:Tryz.prog.cellsOf 3=1:=by kernel_rfl
theorem QdI:Tryz.prog.cellsOf 4=1:=by kernel_rfl
theorem Qfk:Tryz.prog.cellsOf 28=2:=by kernel_rfl
theorem QiE:Tryz.prog.cellsOf 26=1:=by kernel_rfl
theorem Qlh {α : Type} {cs:Array α} (h:cs.size=8):∃ c0 c1 c2 c3 c4 c5 c6 c7,cs = #[c0,c1,c2,c3,c4,c5,c6,c7]:=by
 obtain⟨l⟩:=cs;match l,h with
 | [c0,c1,c2,c3,c4,c5,c6,c7],_=>exact⟨c0,c1,c2,c3,c4,c5,c6,c7,rfl⟩
variable {H:Type} {enc:TypeId×Value->H} {w:World}
theorem J2 {fuel:Nat} {x:DataW H×List MemPlace} {c2 c3:Value} (h:DataW.trod enc Tryz.prog w 0 (fun _=>true) true fuel 28 [c2,c3]=some x) :
  ∃ s a n c,c2=.bool s/\c3=.slice a n c/\Nx w (.agg #[.bool s,.slice a n c]):=by
 obtain⟨y0,y1,n,-,-,h0,h1⟩:=trod_struct2 Tryz.underlying28 h;replace h0:DataW.trod enc Tryz.prog w 0 (fun _=>true) true n 4 (List.take (Tryz.prog.cellsOf 4) [c2,c3])=some y0:=h0;replace h1:DataW.trod enc Tryz.prog w 0 (fun _=>true) true n 26 (List.take (Tryz.prog.cellsOf 26) [c3])=some y1:=h1;rw[QdI] at h0;rw[QiE] at h1;obtain⟨s,e0,-⟩:=DataW.trod_bool Tryz.underlying4 h0;injection e0 with e0;rcases open_ints Tryz.underlying26 Tryz.underlying139 QeY h1 with ⟨hcs,-⟩|⟨a,len,cap,zs,hcs,-,hl,hm,hz,-,hcell,hwz⟩
 ·injection hcs with hcs;exact⟨s,none,0,0,e0,hcs,s,none,0,0,fun _=>0,rfl,.inl rfl,fun i hi=>absurd hi (Nat.not_lt_zero _),Nat.le_refl _,by decide⟩
 ·injection hcs with hcs;have hzl:len<=zs.length:=by rw[hz];split <;> omega
  have hwf:∀ i,i<zs.length->0<=zs.getD i 0/\zs.getD i 0<=4294967295:=fun i hi=>by
   have:=hwz (zs.getD i 0) (by rw[List.getD_eq_getElem?_getD,List.getElem?_eq_getElem hi];exact List.getElem_mem hi);exact Qku this
  refine⟨s,some a,len,cap,e0,hcs,s,some a,len,cap,fun i=>(zs.getD i 0).toNat,rfl,?_,fun i hi=>?_,hl,by unfold maxLen at hm;omega⟩
  ·refine(Qjt hzl hcell).congr fun i hi=>?_;have:=hwf i (by omega);show Value.int .u32 (zs.getD i 0)=Value.int .u32 (((zs.getD i 0).toNat:Nat):Int)
   rw[Int.toNat_of_nonneg this.1]
  ·have:=hwf i (by omega);show (zs.getD i 0).toNat<4294967296
   omega
theorem Nx.nq {w:World} {s:Bool} {a:Option Addr} {n c:Nat} (h:Nx w (.agg #[.bool s,.slice a n c])):∃ f,Nq w a n c f:=by
 obtain⟨s',a',n',c',f,e,h1,h2,h3,h4⟩:=h;injection e with e;simp only[Array.mk.injEq,List.cons.injEq,and_true] at e;obtain⟨-,e⟩:=e;injection e with e1 e2 e3;subst e1 e2 e3;exact⟨f,h1,h2,h3,h4⟩
theorem Qhm {v:Value} {d:DataW H} {p:List MemPlace} {r:Reach} {b0:Nat} (hv:Value.okWide Tryz.prog w r b0 30 v) (h:DataW.Trod enc Tryz.prog w 0 (fun _=>true) true 30 v d p) :
  ∃ s1 a1 n1 c1 s2 a2 n2 c2 s3 a3 n3 c3 P K f1 f2 f3,v=.agg #[.bool s1,.slice a1 n1 c1,.bool s2,.slice a2 n2 c2,.bool s3,.slice a3 n3 c3,.int .i64 P,.int .i64 K]/\Nq w a1 n1 c1 f1/\Nq w a2 n2 c2 f2/\Nq w a3 n3 c3 f3 /\
   (-9223372036854775808<=P/\P<=9223372036854775807)/\(-9223372036854775808<=K/\K<=9223372036854775807):=by
 obtain⟨cs,rfl,hsz⟩:=okWide_struct Tryz.underlying30 hv;obtain⟨e0,e1,e2,e3,e4,e5,e6,e7,rfl⟩:=Qlh (hsz.trans (by kernel_rfl));obtain⟨fuel,hf⟩:=h;obtain⟨xs,n,-,-,-,hlen,hfl⟩:=DataW.trod_struct Tryz.underlying30 hf;match xs,hlen with
 | [y0, y1, y2, y3, y4], _ =>
   have h0:DataW.trod enc Tryz.prog w 0 (fun _=>true) true n 28 (List.take (Tryz.prog.cellsOf 28) [e0,e1,e2,e3,e4,e5,e6,e7])=some y0:=hfl 0 _ rfl;have h1:DataW.trod enc Tryz.prog w 0 (fun _=>true) true n 28 (List.take (Tryz.prog.cellsOf 28) [e2,e3,e4,e5,e6,e7])=some y1:=hfl 1 _ rfl;have h2:DataW.trod enc Tryz.prog w 0 (fun _=>true) true n 28 (List.take (Tryz.prog.cellsOf 28) [e4,e5,e6,e7])=some y2:=hfl 2 _ rfl;have h3:DataW.trod enc Tryz.prog w 0 (fun _=>true) true n 3 (List.take (Tryz.prog.cellsOf 3) [e6,e7])=some y3:=hfl 3 _ rfl;have h4:DataW.trod enc Tryz.prog w 0 (fun _=>true) true n 3 (List.take (Tryz.prog.cellsOf 3) [e7])=some y4:=hfl 4 _ rfl;rw[Qfk] at h0 h1 h2;rw[Qe9] at h3 h4;obtain⟨s1,a1,n1,c1,rfl,rfl,g1⟩:=J2 h0;obtain⟨s2,a2,n2,c2,rfl,rfl,g2⟩:=J2 h1;obtain⟨s3,a3,n3,c3,rfl,rfl,g3⟩:=J2 h2;obtain⟨P,e3',-,w3⟩:=DataW.trod_int Tryz.underlying3 h3;obtain⟨K,e4',-,w4⟩:=DataW.trod_int Tryz.underlying3 h4;injection e3' with e3';injection e4' with e4';subst e3' e4';obtain⟨f1,q1⟩:=g1.nq;obtain⟨f2,q2⟩:=g2.nq;obtain⟨f3,q3⟩:=g3.nq;exact⟨s1,a1,n1,c1,s2,a2,n2,c2,s3,a3,n3,c3,P,K,f1,f2,f3,rfl,q1,q2,q3,QiX w3,QiX w4⟩
open Go.ChangeShapes Go.WideShapes Go.ChangeAt Go.RowKit
theorem Qdp (os:Os) (started:os.Started) (H:Type) (enc:TypeId×Value->H) :
  ReturnsInHanded {} Tryz.checked os 3 .any (Rows.descentMatchesReferenceSpec.pre6 enc Tryz.prog Tryz.f3 Rows.descentMatchesReferenceRow.domain false) (Rows.descentMatchesReferenceSpec.post enc Tryz.prog Tryz.f3 false true false false):=by
 refine returnsInHanded_of_change (C:=Tryz.checked) QlQ started (by kernel_rfl) Tryz.func3
  (ChangeSpec.witness6 (enc:=enc) (C:=Tryz.checked) false ⟨#[],#[.agg #[.int .i8 0,.int .i16 0,.int .u8 0],.agg #[.bool false,.slice none 0 0,.bool false,.slice none 0 0,.bool false,.slice none 0 0,.int .i64 0,.int .i64 0],.int .u8 0],[]⟩ 8 (by kernel_rfl) (by kernel_rfl) (by kernel_rfl) (by kernel_rfl)) ?_
 intro W base args ds gs before hval0 hW hcnd _;have hval:∀ (j:Nat) t v,Tryz.f3.params[j]? = some t->args[j]? = some v->Value.okWide Tryz.prog W .any base t v:=hval0;have hW':=hW;obtain⟨p,q,hA0,hV,rfl,hfz,hnd⟩:=hW;have hA:DataW.TrodAll enc Tryz.prog W 0 (fun _=>true) true Tryz.f3.params.toList args.toList ds p:=hA0;rw[Tryz.params3] at hA hval;obtain⟨v0,v1,v2,d0,d1,d2,p0,p1,p2,rfl,rfl,rfl,h0,h1,h2⟩:=trodAll_three hA;obtain⟨rfl,rfl⟩:=trodVars_none hV
 have fin:∀ {W':World},Below W.heap.size W W'->Rows.descentMatchesReferenceSpec.post enc Tryz.prog Tryz.f3 false true false false W #[v0,v1,v2] (.bool true) W':=fun hb=>
  Qio (tb:=4) QhX (fun t ht=>by rw[Tryz.params3] at ht;simp at ht;rcases ht with rfl|rfl|rfl <;> exact⟨by kernel_rfl,of_decide_eq_true (by kernel_rfl)⟩) rfl Tryz.underlying4 rfl ⟨rfl,rfl,rfl⟩ hW' hb
 obtain⟨x0,y0,m0,rfl,rx0,ry0,rm0⟩:=QgI (hval 0 25 v0 rfl rfl) h0;obtain⟨s1,a1,n1,c1,s2,a2,n2,c2,s3,a3,n3,c3,P,K,f1,f2,f3,rfl,g1,g2,g3,rP,rK⟩:=Qhm (hval 1 30 v1 rfl rfl) h1;obtain⟨k2,rfl,rfl,rfl,wk2⟩:=open_int Tryz.underlying5 (hval 2 5 v2 rfl rfl) h2;have q2:=Qjo wk2;refine(?_:Calls Tryz.prog 3 #[.agg #[.int .i8 x0,.int .i16 y0,.int .u8 m0],.agg #[.bool s1,.slice a1 n1 c1,.bool s2,.slice a2 n2 c2,.bool s3,.slice a3 n3 c3,.int .i64 P,.int .i64 K],.int .u8 k2] W _);have hk:=Qfm x0 y0 m0 k2 P K s1 s2 s3 a1 a2 a3 n1 n2 n3 c1 c2 c3 f1 f2 f3 W rx0.1 rx0.2 ry0.1 ry0.2 q2.1 q2.2 rP.1 rP.2 rK.1 rK.2 g1 g2 g3;refine hk.mono fun e W' ⟨he,hb⟩=>?_;subst he;exact⟨_,rfl,fin hb⟩
theorem dmat_holds:Rows.DescentMatchesReferenceSaid:=
 OpenClaim.holds_of_wide 3 Tryz.f3 rfl rfl rfl rfl rfl rfl rfl ⟨rfl,rfl,rfl,rfl,rfl⟩ rfl rfl rfl rfl rfl (by kernel_rfl) Tryz.func3 (by kernel_rfl)
  (of_decide_eq_true (by kernel_rfl)) (by unfold Func.isWrapper;first|(rw[if_pos (by decide +kernel)];kernel_rfl)|(rw[if_neg (by decide +kernel)];exact⟨rfl,rfl⟩))
  (fun os started H enc _=>Qdp os started H enc)
