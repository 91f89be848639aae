/-
  What comes into a law of Descent.
-/
import Derived.WalkKit
import Derived.ProofKit
import Derived.OpenShut
import Derived.Carry
import Derived.Lib.SmallJoins
import Derived.Deep.Slices
import Derived.Test.YteidokhjmbihlaaGreatRows
import Derived.Test.YteidokhjmbihlaaGreatFA
set_option linter.all false
namespace Go.Proofs.YteidokhjmbihlaaGreat
open Go.ChangeShapes Go.WideShapes Go.ChangeAt Go.RowKit
theorem Qlh:ownKnob Tryz.prog.godebug=none:=by kernel_rfl
theorem QiN:laidOutB Tryz.prog=true:=by kernel_rfl
section
variable {H:Type} {enc:TypeId×Value->H} {P:Program} {W W':World}
theorem Qed (hl:laidOutB P=true):∀ {ts:List TypeId} {vs:List Value} {ds:List (DataW H)} {ps:List MemPlace},(∀ t∈ts,P.readableRec t=true/\t<P.types.size) ->
  DataW.TrodAll enc P W 0 (fun _=>true) true ts vs ds ps->Below W.heap.size W W'->(∀ x∈ps,x.block<W.heap.size)->∀ {sp:Nat->Bool},(∀ p∈ps,sp p.block=true)->DataW.TrodAll enc P W' 0 sp true ts vs ds ps:=by
 intro ts;induction ts with
 | nil =>
   intro vs ds ps _ h _ _ sp _
   cases vs <;> cases ds <;> simp[DataW.TrodAll] at h |-
   exact h
 | cons t ts ih =>
   intro vs ds ps hr h hb aA sp hs
   cases vs <;> cases ds <;> simp only[DataW.TrodAll] at h |-
   obtain⟨p,q,h1,h2,rfl⟩:=h;refine⟨p,q,WideElems.Trod_stays hl (hr t (by simp)).1 (hr t (by simp)).2 h1 (fun x hx=>hb.same (aA x (by simp[hx]))) (fun x hx=>hs x (by simp[hx])),?_,rfl⟩;exact ih (fun t' ht'=>hr t' (by simp[ht'])) h2 hb (fun x hx=>aA x (by simp[hx])) (fun x hx=>hs x (by simp[hx]))
theorem Qiw {f:Func} {s:ChangeSpec} {args:Array Value} {ds gs:List (DataW H)} {before:List MemPlace} {tb:TypeId} (hl:laidOutB P=true) (hr:∀ t∈f.params.toList,P.readableRec t=true/\t<P.types.size)
  (hres:f.resultTypes = #[tb]) (htb:P.underlying tb=some .bool) (hv:s.vars=[]) (hfn:(s.fn H (ds++gs)).results=[.lit (.bool true)]/\(s.fn H (ds++gs)).args=ds/\(s.fn H (ds++gs)).vars=[])
  (hW:DataW.Whole enc P f.params.toList s.vars false W args.toList ds gs before) (hb:Below W.heap.size W W'):s.post enc P f false true false false W args (.bool true) W':=by
 have aE:∀ p∈before,p.block<W.heap.size:=fun p hp=>hW.lt p hp;have aD:∀ p∈before,(fun b=>decide (b<W.heap.size)) p.block=true:=fun p hp=>by simpa using aE p hp
 have aI:=hW;obtain⟨p,q,hA,hV,e,hz,_⟩:=hW;rw[hv] at hV;obtain⟨rfl,rfl⟩:=trodVars_none hV;rw[List.append_nil] at e;subst e
 have aC:∀ sp:Nat->Bool,(∀ x∈before,sp x.block=true)->DataW.TrodAll enc P W' 0 sp true f.params.toList args.toList (s.fn H (ds++[])).args before:=fun sp hs=>by
  rw[hfn.2.1];exact Qed hl hr hA hb aE hs
 have aB:∀ (b:Nat) (sp:Nat->Bool) (hd:Bool),DataW.TrodAll enc P W' b sp hd f.resultTypes.toList ((Value.bool true).resultList f.resultTypes.size) (s.fn H (ds++[])).results []:=fun b sp hd=>by
  rw[hfn.1,hres];exact trodAll_mk1 (shut_bool htb _)
 have aA:∀ sp:Nat->Bool,DataW.TrodVars enc P W' sp s.vars (s.fn H (ds++[])).vars []:=fun sp=>by
  rw[hv,hfn.2.2];rfl
 have aH:∀ (j:Nat) (t:TypeId) (r:Value),f.resultTypes[j]? = some t->((Value.bool true).resultList f.resultTypes.size)[j]? = some r->Value.okWide P W' .any 0 t r:=ok_one hres rfl (okWide_bool_mk htb _);refine⟨ds,[],before,[],before,[],aI,aB _ _ _,aC _ aD,aA _,World.keptBut_mono (fun p hp=>⟨hp,.inr (.inl hp)⟩) (hb.frame (· ∈ before)),fun _=>?_⟩;refine⟨aH,_,_,([]++before)++[],⟨[]++before,[],trodAll_append (aC _ (fun _ _=>rfl)) (aB _ _ _),aA _,rfl,?_,fun h=>by cases h⟩,?_⟩
 ·intro b aF hp;have aG:MemPlace.cell b aF∈before:=by simpa using hp
  rw[hb.frozen (aE _ aG)];exact hz b aF aG
 ·exact fun p hp _=>by simpa using hp
end
theorem Qj6 {w:World} {a:Addr} {n:Nat} {zs:List Int} {k:IntKind} (hn:n<=zs.length) (h:∀ i,i<zs.length->w.cell? (a.add i)=some (.int k (zs.getD i 0))) :
  Cl w (some a) n (fun i=>.int k (zs.getD i 0)):=by
 rcases Nat.eq_zero_or_pos n with h0|h0
 ·exact .inl h0
 ·obtain⟨b,aA,rfl,hc⟩:=ints_at h (by omega);exact .inr ⟨b,aA,rfl,World.block_lt_of_cell? w _ (hc 0 (by omega)),fun i hi=>hc i (by omega)⟩
section
variable {H:Type} {enc:TypeId×Value->H} {P:Program} {w:World} {base:Nat} {spare:Nat->Bool} {held:Bool}
end
open Go.ChangeShapes Go.WideShapes Go.ChangeAt Go.RowKit Go.Deep
theorem QkC {z:Int} (h:(Lit.int .i64 z).wf=true) : -9223372036854775808<=z/\z<=9223372036854775807:=by
 simpa [Lit.wf,IntKind.min,IntKind.max,IntKind.signed,IntKind.bits] using h
variable {H:Type} {enc:TypeId×Value->H} {w:World}
