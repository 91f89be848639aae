/-
  The law DescentSolubility holds: for all inputs it returns true, and its arguments read afterwards as before.
-/
import Derived.Test.YteidokhjmbihlaaGreatDZA
import Derived.Test.YteidokhjmbihlaaGreatDYL
set_option linter.unusedSimpArgs false
set_option linter.unusedVariables false
set_option maxRecDepth 100000
namespace Go.Proofs.YteidokhjmbihlaaGreat
open Go.ChangeShapes Go.WideShapes Go.ChangeAt Go.RowKit
theorem QdF (os:Os) (started:os.Started) (H:Type) (enc:TypeId × Value->H) :
  ReturnsInHanded {} Tryz.checked os 6 .any (Rows.descentSolubilitySpec.pre6 enc Tryz.prog Tryz.f6 Rows.descentSolubilityRow.domain false) (Rows.descentSolubilitySpec.post enc Tryz.prog Tryz.f6 false true false false):=by
 refine returnsInHanded_of_change (C:=Tryz.checked) Qlt started (by kernel_rfl) Tryz.func6
  (ChangeSpec.witness6 (enc:=enc) (C:=Tryz.checked) false ⟨#[],#[.agg #[.int .i8 0,.int .i16 0,.int .u8 0],.int .u8 0,.agg #[.int .u8 0,.int .u8 0]],[]⟩ 8 (by kernel_rfl) (by kernel_rfl) (by kernel_rfl) (by kernel_rfl)) ?_
 intro W base args ds gs before hval0 hW hcnd _;have hval:∀ (j:Nat) t v,Tryz.f6.params[j]? = some t->args[j]? = some v->Value.okWide Tryz.prog W .any base t v:=hval0;have hW':=hW;obtain ⟨p,q,hA0,hV,rfl,hfz,hnd⟩:=hW;have hA:DataW.TrodAll enc Tryz.prog W 0 (fun _=>true) true Tryz.f6.params.toList args.toList ds p:=hA0;rw [Tryz.params6] at hA hval;obtain ⟨v0,v1,v2,d0,d1,d2,p0,p1,p2,rfl,rfl,rfl,h0,h1,h2⟩:=trodAll_three hA;obtain ⟨rfl,rfl⟩:=trodVars_none hV
 have fin:∀ {W':World},Below W.heap.size W W'->Rows.descentSolubilitySpec.post enc Tryz.prog Tryz.f6 false true false false W #[v0,v1,v2] (.bool true) W':=fun hb=>
  Qir (tb:=4) Qh8 (fun t ht=>by rw [Tryz.params6] at ht;simp at ht;rcases ht with rfl|rfl|rfl <;> exact ⟨by kernel_rfl,of_decide_eq_true (by kernel_rfl)⟩) rfl Tryz.underlying4 rfl ⟨rfl,rfl,rfl⟩ hW' hb
 obtain ⟨x0,y0,m0,rfl,rx0,ry0,rm0⟩:=Qgk (hval 0 25 v0 rfl rfl) h0;obtain ⟨k1,rfl,rfl,rfl,wk1⟩:=open_int Tryz.underlying5 (hval 1 5 v1 rfl rfl) h1;have q1:=Qey wk1;obtain ⟨a2,b2,rfl,ra2,rb2⟩:=QgX (hval 2 74 v2 rfl rfl) h2;refine (?_:Calls Tryz.prog 6 #[.agg #[.int .i8 x0,.int .i16 y0,.int .u8 m0],.int .u8 k1,.agg #[.int .u8 a2,.int .u8 b2]] W _);have hk:=QgZ x0 y0 m0 k1 a2 b2 W rx0.1 rx0.2 ry0.1 ry0.2 q1.1 q1.2 ra2 rb2;refine hk.mono fun e W' ⟨he,hb⟩=>?_;subst he;exact ⟨_,rfl,fin hb⟩
theorem dsol_holds:Rows.DescentSolubilitySaid:=
 OpenClaim.holds_of_wide 6 Tryz.f6 rfl rfl rfl rfl rfl rfl rfl ⟨rfl,rfl,rfl,rfl,rfl⟩ rfl rfl rfl rfl rfl (by kernel_rfl) Tryz.func6 (by kernel_rfl)
  (of_decide_eq_true (by kernel_rfl)) (by unfold Func.isWrapper;first|(rw [if_pos (by decide +kernel)];kernel_rfl)|(rw [if_neg (by decide +kernel)];exact ⟨rfl,rfl⟩))
  (fun os started H enc _=>QdF os started H enc)
end Go.Proofs.YteidokhjmbihlaaGreat
