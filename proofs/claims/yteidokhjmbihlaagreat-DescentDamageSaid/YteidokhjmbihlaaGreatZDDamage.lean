/-
  The law DescentDamage holds: for all inputs it returns true, and its arguments read afterwards as before.
-/
import Derived.Lib.SmallJoins
import Derived.Test.YteidokhjmbihlaaGreatFY
import Derived.Test.YteidokhjmbihlaaGreatDMD
set_option linter.all false
set_option maxRecDepth 100000
namespace Go.Proofs.YteidokhjmbihlaaGreat
open Go.ChangeShapes Go.WideShapes Go.ChangeAt Go.RowKit Go.Deep
theorem Qkh {α : Type} {cs:Array α} (h:cs.size=4):∃ c0 c1 c2 c3,cs = #[c0,c1,c2,c3]:=by
 obtain⟨l⟩:=cs;match l,h with
 | [c0,c1,c2,c3],_=>exact⟨c0,c1,c2,c3,rfl⟩
variable {H:Type} {enc:TypeId×Value->H} {w:World}
theorem QgX {v:Value} {d:DataW H} {p:List MemPlace} {r:Reach} {b0:Nat} (hv:Value.okWide Tryz.prog w r b0 103 v) (h:DataW.Trod enc Tryz.prog w 0 (fun _=>true) true 103 v d p) :
  ∃ (k i a:Nat) (n:Int),v=.agg #[.int .u8 (k:Int),.int .u8 (i:Int),.int .u8 (a:Int),.int .i16 n]/\k<256/\i<256/\a<256 /\ -32768<=n/\n<=32767:=by
 obtain⟨cs,rfl,aA⟩:=okWide_struct Tryz.underlying103 hv;obtain⟨c0,c1,c2,c3,rfl⟩:=Qkh (aA.trans (by kernel_rfl));obtain⟨aB,hf⟩:=h;obtain⟨y0,y1,y2,y3,n,-,-,h0,h1,h2,h3⟩:=Go.Joins.trod_struct4 Tryz.underlying103 hf;replace h0:DataW.trod enc Tryz.prog w 0 (fun _=>true) true n 5 (List.take (Tryz.prog.cellsOf 5) [c0,c1,c2,c3])=some y0:=h0;replace h1:DataW.trod enc Tryz.prog w 0 (fun _=>true) true n 5 (List.take (Tryz.prog.cellsOf 5) [c1,c2,c3])=some y1:=h1;replace h2:DataW.trod enc Tryz.prog w 0 (fun _=>true) true n 5 (List.take (Tryz.prog.cellsOf 5) [c2,c3])=some y2:=h2;replace h3:DataW.trod enc Tryz.prog w 0 (fun _=>true) true n 23 (List.take (Tryz.prog.cellsOf 23) [c3])=some y3:=h3;rw[QbB] at h0 h1 h2;rw[QbK] at h3;obtain⟨z0,e0,-,w0⟩:=DataW.trod_int Tryz.underlying5 h0;obtain⟨z1,e1,-,w1⟩:=DataW.trod_int Tryz.underlying5 h1;obtain⟨z2,e2,-,w2⟩:=DataW.trod_int Tryz.underlying5 h2;obtain⟨z3,e3,-,w3⟩:=DataW.trod_int Tryz.underlying23 h3;injection e0 with e0;injection e1 with e1;injection e2 with e2;injection e3 with e3;subst e0 e1 e2 e3;have a0:=Qel w0;have a1:=Qel w1;have a2:=Qel w2;have a3:=Qjq w3;refine⟨z0.toNat,z1.toNat,z2.toNat,z3,?_,by omega,by omega,by omega,a3.1,a3.2⟩;rw[show ((z0.toNat:Nat):Int)=z0 by omega,show ((z1.toNat:Nat):Int)=z1 by omega,show ((z2.toNat:Nat):Int)=z2 by omega]
open Go.ChangeShapes Go.WideShapes Go.ChangeAt Go.RowKit
theorem QdB (os:Os) (started:os.Started) (H:Type) (enc:TypeId×Value->H) :
  ReturnsInHanded {} Tryz.checked os 9 .any (Rows.descentDamageSpec.pre6 enc Tryz.prog Tryz.f9 Rows.descentDamageRow.domain false) (Rows.descentDamageSpec.post enc Tryz.prog Tryz.f9 false true false false):=by
 refine returnsInHanded_of_change (C:=Tryz.checked) QlP started (by kernel_rfl) Tryz.func9
  (ChangeSpec.witness6 (enc:=enc) (C:=Tryz.checked) false ⟨#[],#[.agg #[.int .i8 0,.int .i16 0,.int .u8 0],.agg #[.int .u8 0,.int .u8 0,.int .u8 0,.int .i16 0]],[]⟩ 8 (by kernel_rfl) (by kernel_rfl) (by kernel_rfl) (by kernel_rfl)) ?_
 intro W aE aC ds gs aD aB hW aO _;have aA:∀ (j:Nat) t v,Tryz.f9.params[j]? = some t->aC[j]? = some v->Value.okWide Tryz.prog W .any aE t v:=aB;have aP:=hW;obtain⟨p,q,aQ,hV,rfl,aT,aS⟩:=hW;have hA:DataW.TrodAll enc Tryz.prog W 0 (fun _=>true) true Tryz.f9.params.toList aC.toList ds p:=aQ;rw[Tryz.params9] at hA aA;obtain⟨v0,v1,d0,d1,p0,p1,rfl,rfl,rfl,h0,h1⟩:=trodAll_two hA;obtain⟨rfl,rfl⟩:=trodVars_none hV
 have aR:∀ {W':World},Below W.heap.size W W'->Rows.descentDamageSpec.post enc Tryz.prog Tryz.f9 false true false false W #[v0,v1] (.bool true) W':=fun hb=>
  Qin (tb:=4) Qh4 (fun t ht=>by rw[Tryz.params9] at ht;simp at ht;rcases ht with rfl|rfl <;> exact⟨by kernel_rfl,of_decide_eq_true (by kernel_rfl)⟩) rfl Tryz.underlying4 rfl ⟨rfl,rfl,rfl⟩ aP hb
 obtain⟨x0,y0,m0,rfl,aG,aF,aH⟩:=Qgn (aA 0 25 v0 rfl rfl) h0;obtain⟨k1,i1,a1,n1,rfl,aK,aL,aM,aJ,aI⟩:=QgX (aA 1 103 v1 rfl rfl) h1;refine(?_:Calls Tryz.prog 9 #[.agg #[.int .i8 x0,.int .i16 y0,.int .u8 m0],.agg #[.int .u8 (k1:Int),.int .u8 (i1:Int),.int .u8 (a1:Int),.int .i16 n1]] W _);have hk:=Qd0 x0 y0 m0 n1 k1 i1 a1 W aG.1 aG.2 aF.1 aF.2 aH.1 aH.2 aK aL aM aJ aI;refine hk.mono fun e W' ⟨he,hb⟩=>?_;subst he;exact⟨_,rfl,aR hb⟩
theorem ddmg_holds:Rows.DescentDamageSaid:=
 OpenClaim.holds_of_wide 9 Tryz.f9 rfl rfl rfl rfl rfl rfl rfl ⟨rfl,rfl,rfl,rfl,rfl⟩ rfl rfl rfl rfl rfl (by kernel_rfl) Tryz.func9 (by kernel_rfl)
  (of_decide_eq_true (by kernel_rfl)) (by unfold Func.isWrapper;first|(rw[if_pos (by decide +kernel)];kernel_rfl)|(rw[if_neg (by decide +kernel)];exact⟨rfl,rfl⟩))
  (fun os started H enc _=>QdB os started H enc)
