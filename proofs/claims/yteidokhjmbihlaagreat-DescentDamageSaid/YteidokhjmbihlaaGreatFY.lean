/-
  What comes into a law of Descent.
-/
import Derived.WalkKit
import Derived.ProofKit
import Derived.OpenShut
import Derived.Carry
import Derived.Lib.SmallJoins
import Derived.Deep.Slices
import Derived.Test.YteidokhjmbihlaaGreatRows
import Derived.Test.YteidokhjmbihlaaGreatFA
set_option linter.all false
set_option maxRecDepth 100000
namespace Go.Proofs.YteidokhjmbihlaaGreat
open Go.ChangeShapes Go.WideShapes Go.ChangeAt Go.RowKit
theorem QlP:ownKnob Tryz.prog.godebug=none:=by kernel_rfl
theorem Qh4:laidOutB Tryz.prog=true:=by kernel_rfl
section
variable {H:Type} {enc:TypeId×Value->H} {P:Program} {W W':World}
theorem Qct (hl:laidOutB P=true):∀ {ts:List TypeId} {vs:List Value} {ds:List (DataW H)} {ps:List MemPlace},(∀ t∈ts,P.readableRec t=true/\t<P.types.size) ->
  DataW.TrodAll enc P W 0 (fun _=>true) true ts vs ds ps->Below W.heap.size W W'->(∀ x∈ps,x.block<W.heap.size)->∀ {sp:Nat->Bool},(∀ p∈ps,sp p.block=true)->DataW.TrodAll enc P W' 0 sp true ts vs ds ps:=by
 intro ts;induction ts with
 | nil =>
   intro vs ds ps _ h _ _ sp _
   cases vs <;> cases ds <;> simp[DataW.TrodAll] at h |-
   exact h
 | cons t ts ih =>
   intro vs ds ps hr h hb aA sp hs
   cases vs <;> cases ds <;> simp only[DataW.TrodAll] at h |-
   obtain⟨p,q,h1,h2,rfl⟩:=h;refine⟨p,q,WideElems.Trod_stays hl (hr t (by simp)).1 (hr t (by simp)).2 h1 (fun x hx=>hb.same (aA x (by simp[hx]))) (fun x hx=>hs x (by simp[hx])),?_,rfl⟩;exact ih (fun t' ht'=>hr t' (by simp[ht'])) h2 hb (fun x hx=>aA x (by simp[hx])) (fun x hx=>hs x (by simp[hx]))
theorem Qin {f:Func} {s:ChangeSpec} {args:Array Value} {ds gs:List (DataW H)} {before:List MemPlace} {tb:TypeId} (hl:laidOutB P=true) (hr:∀ t∈f.params.toList,P.readableRec t=true/\t<P.types.size)
  (hres:f.resultTypes = #[tb]) (htb:P.underlying tb=some .bool) (hv:s.vars=[]) (hfn:(s.fn H (ds++gs)).results=[.lit (.bool true)]/\(s.fn H (ds++gs)).args=ds/\(s.fn H (ds++gs)).vars=[])
  (hW:DataW.Whole enc P f.params.toList s.vars false W args.toList ds gs before) (hb:Below W.heap.size W W'):s.post enc P f false true false false W args (.bool true) W':=by
 have aE:∀ p∈before,p.block<W.heap.size:=fun p hp=>hW.lt p hp;have aD:∀ p∈before,(fun b=>decide (b<W.heap.size)) p.block=true:=fun p hp=>by simpa using aE p hp
 have aI:=hW;obtain⟨p,q,hA,hV,e,hz,_⟩:=hW;rw[hv] at hV;obtain⟨rfl,rfl⟩:=trodVars_none hV;rw[List.append_nil] at e;subst e
 have aC:∀ sp:Nat->Bool,(∀ x∈before,sp x.block=true)->DataW.TrodAll enc P W' 0 sp true f.params.toList args.toList (s.fn H (ds++[])).args before:=fun sp hs=>by
  rw[hfn.2.1];exact Qct hl hr hA hb aE hs
 have aB:∀ (b:Nat) (sp:Nat->Bool) (hd:Bool),DataW.TrodAll enc P W' b sp hd f.resultTypes.toList ((Value.bool true).resultList f.resultTypes.size) (s.fn H (ds++[])).results []:=fun b sp hd=>by
  rw[hfn.1,hres];exact trodAll_mk1 (shut_bool htb _)
 have aA:∀ sp:Nat->Bool,DataW.TrodVars enc P W' sp s.vars (s.fn H (ds++[])).vars []:=fun sp=>by
  rw[hv,hfn.2.2];rfl
 have aH:∀ (j:Nat) (t:TypeId) (r:Value),f.resultTypes[j]? = some t->((Value.bool true).resultList f.resultTypes.size)[j]? = some r->Value.okWide P W' .any 0 t r:=ok_one hres rfl (okWide_bool_mk htb _);refine⟨ds,[],before,[],before,[],aI,aB _ _ _,aC _ aD,aA _,World.keptBut_mono (fun p hp=>⟨hp,.inr (.inl hp)⟩) (hb.frame (· ∈ before)),fun _=>?_⟩;refine⟨aH,_,_,([]++before)++[],⟨[]++before,[],trodAll_append (aC _ (fun _ _=>rfl)) (aB _ _ _),aA _,rfl,?_,fun h=>by cases h⟩,?_⟩
 ·intro b aF hp;have aG:MemPlace.cell b aF∈before:=by simpa using hp
  rw[hb.frozen (aE _ aG)];exact hz b aF aG
 ·exact fun p hp _=>by simpa using hp
end
section
variable {H:Type} {enc:TypeId×Value->H} {P:Program} {w:World} {base:Nat} {spare:Nat->Bool} {held:Bool}
end
open Go.ChangeShapes Go.WideShapes Go.ChangeAt Go.RowKit Go.Deep
theorem QlK {z:Int} (h:(Lit.int .i8 z).wf=true) : -128<=z/\z<=127:=by
 simpa [Lit.wf,IntKind.min,IntKind.max,IntKind.signed,IntKind.bits] using h
theorem Qjq {z:Int} (h:(Lit.int .i16 z).wf=true) : -32768<=z/\z<=32767:=by
 simpa [Lit.wf,IntKind.min,IntKind.max,IntKind.signed,IntKind.bits] using h
theorem Qel {z:Int} (h:(Lit.int .u8 z).wf=true):0<=z/\z<=255:=by
 simpa [Lit.wf,IntKind.min,IntKind.max,IntKind.signed,IntKind.bits] using h
theorem QgS:Tryz.prog.cellsOf 22=1:=by kernel_rfl
theorem QbK:Tryz.prog.cellsOf 23=1:=by kernel_rfl
theorem QbB:Tryz.prog.cellsOf 5=1:=by kernel_rfl
theorem QkG {α : Type} {cs:Array α} (h:cs.size=3):∃ c0 c1 c2,cs = #[c0,c1,c2]:=by
 obtain⟨l⟩:=cs;match l,h with
 | [c0,c1,c2],_=>exact⟨c0,c1,c2,rfl⟩
variable {H:Type} {enc:TypeId×Value->H} {w:World}
theorem Qgn {v:Value} {d:DataW H} {p:List MemPlace} {r:Reach} {b0:Nat} (hv:Value.okWide Tryz.prog w r b0 25 v) (h:DataW.Trod enc Tryz.prog w 0 (fun _=>true) true 25 v d p) :
  ∃ x y m:Int,v=.agg #[.int .i8 x,.int .i16 y,.int .u8 m]/\(-128<=x/\x<=127)/\(-32768<=y/\y<=32767)/\(0<=m/\m<=255):=by
 obtain⟨cs,rfl,aA⟩:=okWide_struct Tryz.underlying25 hv;obtain⟨c0,c1,c2,rfl⟩:=QkG (aA.trans (by kernel_rfl));obtain⟨aB,hf⟩:=h;obtain⟨y0,y1,y2,n,-,-,h0,h1,h2⟩:=trod_struct3 Tryz.underlying25 hf;replace h0:DataW.trod enc Tryz.prog w 0 (fun _=>true) true n 22 (List.take (Tryz.prog.cellsOf 22) [c0,c1,c2])=some y0:=h0;replace h1:DataW.trod enc Tryz.prog w 0 (fun _=>true) true n 23 (List.take (Tryz.prog.cellsOf 23) [c1,c2])=some y1:=h1;replace h2:DataW.trod enc Tryz.prog w 0 (fun _=>true) true n 5 (List.take (Tryz.prog.cellsOf 5) [c2])=some y2:=h2;rw[QgS] at h0;rw[QbK] at h1;rw[QbB] at h2;obtain⟨z0,e0,-,w0⟩:=DataW.trod_int Tryz.underlying22 h0;obtain⟨z1,e1,-,w1⟩:=DataW.trod_int Tryz.underlying23 h1;obtain⟨z2,e2,-,w2⟩:=DataW.trod_int Tryz.underlying5 h2;injection e0 with e0;injection e1 with e1;injection e2 with e2;subst e0 e1 e2;exact⟨z0,z1,z2,rfl,QlK w0,Qjq w1,Qel w2⟩
