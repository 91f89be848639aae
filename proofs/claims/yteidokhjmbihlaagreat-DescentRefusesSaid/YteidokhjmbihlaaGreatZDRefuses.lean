/-
  The law DescentRefuses holds: for all inputs it returns true, and its arguments read afterwards as before.
-/
import Derived.Test.YteidokhjmbihlaaGreatZDMatches
import Derived.Test.YteidokhjmbihlaaGreatDRB
set_option linter.all false
set_option maxRecDepth 100000
namespace Go.Proofs.YteidokhjmbihlaaGreat
open Go.ChangeShapes Go.WideShapes Go.ChangeAt Go.RowKit
theorem QkT {α : Type} {cs:Array α} (h:cs.size=2):∃ c0 c1,cs = #[c0,c1]:=by
 obtain⟨l⟩:=cs;match l,h with
 | [c0,c1],_=>exact⟨c0,c1,rfl⟩
variable {H:Type} {enc:TypeId×Value->H} {w:World}
theorem QeP {v:Value} {d:DataW H} {p:List MemPlace} {r:Reach} {b0:Nat} (hv:Value.okWide Tryz.prog w r b0 28 v) (h:DataW.Trod enc Tryz.prog w 0 (fun _=>true) true 28 v d p):Nxn w v:=by
 obtain⟨cs,rfl,aA⟩:=okWide_struct Tryz.underlying28 hv;obtain⟨c0,c1,rfl⟩:=QkT (aA.trans (by kernel_rfl));obtain⟨aB,hf⟩:=h;obtain⟨s,a,m,c,rfl,rfl,hN⟩:=Qgz hf;exact hN
theorem QeX (os:Os) (started:os.Started) (H:Type) (enc:TypeId×Value->H) :
  ReturnsInHanded {} Tryz.checked os 10 .any (Rows.descentRefusesSpec.pre6 enc Tryz.prog Tryz.f10 Rows.descentRefusesRow.domain false) (Rows.descentRefusesSpec.post enc Tryz.prog Tryz.f10 false true false false):=by
 refine returnsInHanded_of_change (C:=Tryz.checked) Qlh started (by kernel_rfl) Tryz.func10
  (ChangeSpec.witness6 (enc:=enc) (C:=Tryz.checked) false ⟨#[],#[.agg #[.bool false,.slice none 0 0],.agg #[.bool false,.slice none 0 0],.int .i64 0],[]⟩ 8 (by kernel_rfl) (by kernel_rfl) (by kernel_rfl) (by kernel_rfl)) ?_
 intro W aE aC ds gs aD aB hW aM _;have aA:∀ (j:Nat) t v,Tryz.f10.params[j]? = some t->aC[j]? = some v->Value.okWide Tryz.prog W .any aE t v:=aB;have aO:=hW;obtain⟨p,q,aP,hV,rfl,aU,aT⟩:=hW;have hA:DataW.TrodAll enc Tryz.prog W 0 (fun _=>true) true Tryz.f10.params.toList aC.toList ds p:=aP;rw[Tryz.params10] at hA aA;obtain⟨v0,v1,v2,d0,d1,d2,p0,p1,p2,rfl,rfl,rfl,h0,h1,h2⟩:=trodAll_three hA;obtain⟨rfl,rfl⟩:=trodVars_none hV
 have aQ:∀ {W':World},Below W.heap.size W W'->Rows.descentRefusesSpec.post enc Tryz.prog Tryz.f10 false true false false W #[v0,v1,v2] (.bool true) W':=fun hb=>
  Qiw (tb:=4) QiN (fun t ht=>by rw[Tryz.params10] at ht;simp at ht;rcases ht with rfl|rfl|rfl <;> exact⟨by kernel_rfl,of_decide_eq_true (by kernel_rfl)⟩) rfl Tryz.underlying4 rfl ⟨rfl,rfl,rfl⟩ aO hb
 obtain⟨s0,a0,n0,c0,f0,rfl,aJ,aH,aL,aS⟩:=QeP (aA 0 28 v0 rfl rfl) h0;obtain⟨s1,a1,n1,c1,f1,rfl,aI,aG,aK,aR⟩:=QeP (aA 1 28 v1 rfl rfl) h1;obtain⟨k2,rfl,rfl,rfl,aF⟩:=open_int Tryz.underlying3 (aA 2 3 v2 rfl rfl) h2;have q2:=QkC aF;refine(?_:Calls Tryz.prog 10 #[.agg #[.bool s0,.slice a0 n0 c0],.agg #[.bool s1,.slice a1 n1 c1],.int .i64 k2] W _);have hk:=Qe1 s0 s1 a0 a1 n0 n1 c0 c1 f0 f1 k2 W q2.1 q2.2 ⟨aJ,aH,aL,aS⟩ ⟨aI,aG,aK,aR⟩;refine hk.mono fun e W' ⟨he,hb⟩=>?_;subst he;exact⟨_,rfl,aQ hb⟩
theorem drfs_holds:Rows.DescentRefusesSaid:=
 OpenClaim.holds_of_wide 10 Tryz.f10 rfl rfl rfl rfl rfl rfl rfl ⟨rfl,rfl,rfl,rfl,rfl⟩ rfl rfl rfl rfl rfl (by kernel_rfl) Tryz.func10 (by kernel_rfl)
  (of_decide_eq_true (by kernel_rfl)) (by unfold Func.isWrapper;first|(rw[if_pos (by decide +kernel)];kernel_rfl)|(rw[if_neg (by decide +kernel)];exact⟨rfl,rfl⟩))
  (fun os started H enc _=>QeX os started H enc)
