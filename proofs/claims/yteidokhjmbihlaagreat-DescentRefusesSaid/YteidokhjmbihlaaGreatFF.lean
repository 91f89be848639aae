/-
  A region in which several operations may come up in many orders: one step for each operation, none for each order. No program.
-/
import Derived.Deep.RegionHeld3
import Derived.Test.YteidokhjmbihlaaGreatQ0
set_option linter.all false
namespace Go.Proofs.YteidokhjmbihlaaGreat
section
variable {P:Program} {ops:Array Oper} {Q:Exit->Act->World->Prop} {md:Region.Mode} {S:World->Prop} {st:List Nat}
def QbI (st:List Nat) (listed:Array Bool):Bool:=st.all fun j=>!listed.getD j false
def Qa0 (P:Program) (md:Region.Mode) (ops:Array Oper) (Q:Exit->Act->World->Prop) (S:World->Prop) (st:List Nat):Nat->Array Bool->Act->World->Prop
 | 0,listed,a,w=>Region.ready md ops listed=[]/\Q .normal a w
 | fuel + 1, listed, a, w =>
   (Region.ready md ops listed=[]->Q .normal a w) /\
   ∀ i∈Region.ready md ops listed,wpOp P ops Q i (fun a' w'=>(QbI st (listed.setIfInBounds i true)=true->S w')/\Qa0 P md ops Q S st fuel (listed.setIfInBounds i true) a' w') a w
theorem Qdl:∀ (fuel:Nat) (listed:Array Bool) (a:Act) (w:World),Qa0 P md ops Q S st fuel listed a w->wpAny P md ops Q fuel listed a w
 | 0,_,_,_,h=>h
 | fuel+1,_,_,_,h=>⟨h.1,fun i hi=>wpOp_mono (fun a' w' h'=>Qdl fuel _ a' w' h'.2) (h.2 i hi)⟩
def Closed (md:Region.Mode) (ops:Array Oper) (listed:Array Bool):Prop:=
 ∀ k,listed.getD k false=true->∀ o,ops[k]? = some o->∀ e∈o.after,Region.binds md e=true->listed.getD e.on false=true
def Qcx (md:Region.Mode) (ops:Array Oper) (listed:Array Bool):Bool:=
 (List.range ops.size).all fun k=>!listed.getD k false || match ops[k]? with
  | none=>true
  | some o=>o.after.all fun e=>!Region.binds md e || listed.getD e.on false
theorem QeB {listed:Array Bool} (h:Qcx md ops listed=true):Closed md ops listed:=by
 intro k hk o ho e he hb;have aA:k<ops.size:=(Ql ho).1;unfold Qcx at h;have h1:=List.all_eq_true.1 h k (List.mem_range.2 aA);rw[hk,ho] at h1;simp only[Bool.not_true,Bool.false_or] at h1;have h2:=Array.all_eq_true_iff_forall_mem.1 h1 e he;rw[hb] at h2;simpa using h2
theorem Closed.set {listed:Array Bool} (h:Closed md ops listed) {j:Nat} (hj:j∈Region.ready md ops listed):Closed md ops (listed.setIfInBounds j true):=by
 intro k hk o ho e he hb;by_cases ekj:j=k
 ·subst ekj;obtain⟨_,o',aB,aA⟩:=mem_ready.1 hj;rw[ho] at aB
  cases aB
  exact getD_set_true (aA e he hb)
 ·rw[getD_set_ne false ekj] at hk;exact getD_set_true (h k hk o ho e he hb)
def Qdc (md:Region.Mode) (ops:Array Oper):Nat->Nat->Nat->Bool
 | 0,_,_=>false
 | f + 1, j, i => match ops[j]? with
   | none=>false
   | some o=>o.after.any fun e=>Region.binds md e && (e.on == i || Qdc md ops f e.on i)
theorem Qb0 {listed:Array Bool} (hc:Closed md ops listed):∀ (f j i:Nat),Qdc md ops f j i=true ->
  (∀ o,ops[j]? = some o->∀ e∈o.after,Region.binds md e=true->listed.getD e.on false=true)->listed.getD i false=true:=by
 intro f;induction f with
 | zero=>intro j i h;simp[Qdc] at h
 | succ f ih =>
   intro j i h hd;simp only[Qdc] at h
   cases ho:ops[j]? with
   | none=>rw[ho] at h;simp at h
   | some o =>
     rw[ho] at h;obtain⟨e,he,h1⟩:=Array.any_eq_true'.1 h;simp only[Bool.and_eq_true,Bool.or_eq_true,beq_iff_eq] at h1;have h2:=hd o ho e he h1.1;rcases h1.2 with h3|h3
     ·rw[<- h3];exact h2
     ·exact ih e.on i h3 (fun o' ho' e' he' hb'=>hc e.on h2 o' ho' e' he' hb')
theorem QjD {listed:Array Bool} (hc:Closed md ops listed) {i j:Nat} (hst:(st.all fun j=>Qdc md ops ops.size j i)=true) (hi:listed.getD i true=false) (hj:j∈Region.ready md ops listed):st.contains j=false:=by
 rw[Bool.eq_false_iff];intro h;have hm:j∈st:=by simpa using h
 have hn:=List.all_eq_true.1 hst j hm;obtain⟨_,o,ho,aA⟩:=mem_ready.1 hj;have:=Qb0 hc _ j i hn (fun o' ho' e he hb=>by rw[ho] at ho';cases ho';exact aA e he hb);rcases Nat.lt_or_ge i listed.size with h'|h'
 ·simp[h'] at this hi;rw[this] at hi;cases hi
 ·simp[Array.getElem?_eq_none h'] at this
theorem QdX {listed:Array Bool} {i:Nat} (h:listed.getD i true=false):listed.getD i false=false:=by
 rcases Nat.lt_or_ge i listed.size with h'|h'
 ·simp[h'] at h |-;exact h
 ·simp[Array.getElem?_eq_none h']
theorem QiL {listed:Array Bool} (hc:Closed md ops listed) {i:Nat} (hst:(st.all fun j=>Qdc md ops ops.size j i)=true) (hi:listed.getD i true=false):QbI st listed=true:=by
 unfold QbI;rw[List.all_eq_true];intro j hj;have hn:=List.all_eq_true.1 hst j hj
 cases hl:listed.getD j false with
 | false=>rfl
 | true =>
   have:=Qb0 hc _ j i hn (fun o' ho' e he hb=>hc j hl o' ho' e he hb);rw[QdX hi] at this
   cases this
theorem QcW {listed:Array Bool} (h:QbI st listed=true) {j:Nat} (hj:st.contains j=false):QbI st (listed.setIfInBounds j true)=true:=by
 unfold QbI at *;rw[List.all_eq_true] at *;intro k hk
 have aA:j≠k:=by
  rintro rfl;rw[Bool.eq_false_iff] at hj;exact hj (by simpa using hk)
 rw[getD_set_ne false aA];exact h k hk
theorem Qdi {listed:Array Bool} {j:Nat} (h:QbI st (listed.setIfInBounds j true)=true):QbI st listed=true:=by
 unfold QbI at *;rw[List.all_eq_true] at *;intro k hk;have h1:=h k hk
 cases hl:listed.getD k false with
 | false=>rfl
 | true=>rw[getD_set_true hl] at h1;exact h1
theorem Qew {i:Nat} {oi:Oper} {v:Value} (hi:ops[i]? = some oi) (hsel:∀ (j:Nat) (o:Oper) cs b,ops[j]? = some o->o.op ≠ .select cs b)
  (hQ:∀ c a w,Q (.panic c) (a.put oi.dst v) w->Q (.panic c) a w) (hst:(st.all fun j=>Qdc md ops ops.size j i)=true) :
  ∀ (fuel:Nat) (listed:Array Bool) (a:Act) (w:World),Closed md ops listed ->
   (∀ j oj,ops[j]? = some oj->j≠i->listed.getD j true=false->(∀ e∈oj.after,Region.binds md e=true->e.on≠i)->oi.apart ops oj=true) ->
   i∈Region.ready md ops listed->YieldsIf P ops S oi v a->S w ->
   Qa0 P md ops Q S st fuel (listed.setIfInBounds i true) (a.put oi.dst v) w->Qa0 P md ops Q S st (fuel+1) listed a w:=by
 intro fuel;induction fuel with
 | zero =>
   intro listed a w aE _ hr hy hS H;refine⟨fun h=>(by rw[h] at hr;cases hr),fun j hj=>?_⟩;by_cases hji:j=i
   ·subst hji;exact hy.wpOp hi hS ⟨fun _=>hS,H⟩
   ·have:=ready_mono hj hji;rw[H.1] at this
    cases this
 | succ fuel ih =>
   intro listed a w aE aA hr hy hS H;refine⟨fun h=>(by rw[h] at hr;cases hr),fun j hj=>?_⟩;by_cases hji:j=i
   ·subst hji;exact hy.wpOp hi hS ⟨fun _=>hS,H⟩
   ·have h1:=H.2 j (ready_mono hj hji);have aH:=QjD aE hst (mem_ready.1 hr).1 hj;have aI:=QjD aE hst (mem_ready.1 hr).1 hr;have aD:QbI st ((listed.setIfInBounds i true).setIfInBounds j true)=true:=QcW (QcW (QiL aE hst (mem_ready.1 hr).1) aI) aH;obtain⟨aC,oj,aF,aJ⟩:=mem_ready.1 hj
    have aG:∀ e∈oj.after,Region.binds md e=true->e.on≠i:=fun e he hb heq=>by
     have h1:=aJ e he hb;have h0:=(mem_ready.1 hr).1;rw[heq] at h1;rcases Nat.lt_or_ge i listed.size with h'|h'
     ·simp[h'] at h0 h1;rw[h0] at h1;cases h1
     ·simp[Array.getElem?_eq_none h'] at h1
    have h2:=wpOp_putIf aF (aA j oj aF hji aC aG) (fun cs b=>hsel i oi cs b hi) (fun cs b=>hsel j oj cs b aF) hQ hy h1
    have aB:∀ k ok,ops[k]? = some ok->k≠i->(listed.setIfInBounds j true).getD k true=false ->
      (∀ e∈ok.after,Region.binds md e=true->e.on≠i)->oi.apart ops ok=true:=fun k ok hk hki hun hno=>by
     refine aA k ok hk hki ?_ hno;by_cases hjk:j=k
     ·subst hjk;exact aC
     ·rw[getD_set_ne true hjk] at hun;exact hun
    refine wpOp_mono (fun a' w' h3=>⟨fun _=>h3.2.1 aD,ih (listed.setIfInBounds j true) a' w' (aE.set hj) aB (ready_mono hr (Ne.symm hji)) h3.1 (h3.2.1 aD) ?_⟩) h2;rw[Array.setIfInBounds_comm _ _ hji];exact h3.2.2
theorem QdL {i:Nat} {oi:Oper} {v:Value} (hi:ops[i]? = some oi) (hsel:∀ (j:Nat) (o:Oper) cs b,ops[j]? = some o->o.op ≠ .select cs b)
  (hQ:∀ c a w,Q (.panic c) (a.put oi.dst v) w->Q (.panic c) a w) (hist:st.contains i=false) :
  ∀ (fuel:Nat) (listed:Array Bool) (a:Act) (w:World),
   (∀ j oj,ops[j]? = some oj->j≠i->listed.getD j true=false->(∀ e∈oj.after,Region.binds md e=true->e.on≠i)->oi.apart ops oj=true) ->
   i∈Region.ready md ops listed->YieldsIf P ops (fun _=>True) oi v a->(QbI st listed=true->S w) ->
   Qa0 P md ops Q S st fuel (listed.setIfInBounds i true) (a.put oi.dst v) w->Qa0 P md ops Q S st (fuel+1) listed a w:=by
 intro fuel;induction fuel with
 | zero =>
   intro listed a w _ hr hy hS H;refine⟨fun h=>(by rw[h] at hr;cases hr),fun j hj=>?_⟩;by_cases hji:j=i
   ·subst hji;exact hy.wpOp hi trivial ⟨fun h=>hS (Qdi h),H⟩
   ·have:=ready_mono hj hji;rw[H.1] at this
    cases this
 | succ fuel ih =>
   intro listed a w aA hr hy hS H;refine⟨fun h=>(by rw[h] at hr;cases hr),fun j hj=>?_⟩;by_cases hji:j=i
   ·subst hji;exact hy.wpOp hi trivial ⟨fun h=>hS (Qdi h),H⟩
   ·have h1:=H.2 j (ready_mono hj hji);obtain⟨aC,oj,aD,aF⟩:=mem_ready.1 hj
    have aE:∀ e∈oj.after,Region.binds md e=true->e.on≠i:=fun e he hb heq=>by
     have h1:=aF e he hb;have h0:=(mem_ready.1 hr).1;rw[heq] at h1;rcases Nat.lt_or_ge i listed.size with h'|h'
     ·simp[h'] at h0 h1;rw[h0] at h1;cases h1
     ·simp[Array.getElem?_eq_none h'] at h1
    have h2:=wpOp_putIf aD (aA j oj aD hji aC aE) (fun cs b=>hsel i oi cs b hi) (fun cs b=>hsel j oj cs b aD) hQ hy h1
    have aB:∀ k ok,ops[k]? = some ok->k≠i->(listed.setIfInBounds j true).getD k true=false ->
      (∀ e∈ok.after,Region.binds md e=true->e.on≠i)->oi.apart ops ok=true:=fun k ok hk hki hun hno=>by
     refine aA k ok hk hki ?_ hno;by_cases hjk:j=k
     ·subst hjk;exact aC
     ·rw[getD_set_ne true hjk] at hun;exact hun
    have aG:∀ w',(QbI st ((listed.setIfInBounds i true).setIfInBounds j true)=true->S w')->QbI st (listed.setIfInBounds j true)=true->S w':=fun w' h hcl=>h (by
     rw[<- Array.setIfInBounds_comm _ _ hji];exact QcW hcl hist)
    refine wpOp_mono (fun a' w' h3=>⟨aG w' h3.2.1,ih (listed.setIfInBounds j true) a' w' aB (ready_mono hr (Ne.symm hji)) h3.1 (aG w' h3.2.1) ?_⟩) h2;rw[Array.setIfInBounds_comm _ _ hji];exact h3.2.2
theorem Qfr {i:Nat} {oi:Oper} {v:Value} {fuel:Nat} {listed:Array Bool} {a:Act} {w:World} (hi:ops[i]? = some oi)
  (hs:Region.noSelect ops=true) (hf:Region.free md ops listed i=true) (hr:(Region.ready md ops listed).contains i=true)
  (hc:Qcx md ops listed=true) (hst:(st.all fun j=>Qdc md ops ops.size j i)=true)
  (hQ:∀ c a w,Q (.panic c) (a.put oi.dst v) w->Q (.panic c) a w) (hy:YieldsIf P ops S oi v a) (hS:S w)
  (h:Qa0 P md ops Q S st fuel (listed.setIfInBounds i true) (a.put oi.dst v) w):Qa0 P md ops Q S st (fuel+1) listed a w:=
 Qew hi (Region.noSelect_spec hs) hQ hst fuel listed a w (QeB hc) (Region.free_spec hi hf) (by simpa using hr) hy hS h
theorem QcI {i:Nat} {oi:Oper} {v:Value} {fuel:Nat} {listed:Array Bool} {a:Act} {w:World} (hi:ops[i]? = some oi)
  (hs:Region.noSelect ops=true) (hf:Region.free md ops listed i=true) (hr:(Region.ready md ops listed).contains i=true)
  (hist:st.contains i=false)
  (hQ:∀ c a w,Q (.panic c) (a.put oi.dst v) w->Q (.panic c) a w) (hy:YieldsIf P ops (fun _=>True) oi v a) (hS:QbI st listed=true->S w)
  (h:Qa0 P md ops Q S st fuel (listed.setIfInBounds i true) (a.put oi.dst v) w):Qa0 P md ops Q S st (fuel+1) listed a w:=
 QdL hi (Region.noSelect_spec hs) hQ hist fuel listed a w (Region.free_spec hi hf) (by simpa using hr) hy hS h
theorem Qbh {i:Nat} {o:Oper} {fuel:Nat} {listed:Array Bool} {a:Act} {w:World} (hr:Region.ready md ops listed=[i]) (ho:ops[i]? = some o)
  (h:∀ K':Act->World->Prop,Shut (∀ a w,(QbI st (listed.setIfInBounds i true)=true->S w)->Qa0 P md ops Q S st fuel (listed.setIfInBounds i true) a w->K' a w)->if Region.wanted o (yielded ops a.tmps)=true then Oper.wp P o a w K' Q else K' (a.put o.dst undef) w) :
  Qa0 P md ops Q S st (fuel+1) listed a w:=
 ⟨fun h0=>(by rw[hr] at h0;cases h0),fun j hj=>by
  rw[hr] at hj;rcases List.mem_cons.1 hj with rfl|hj
  ·exact wpOp_step ho (fun K' hK=>h K' (fun a w hS hW=>hK a w ⟨hS,hW⟩))
  ·cases hj⟩
theorem QbJ {listed:Array Bool} {a:Act} {w:World} (hr:Region.ready md ops listed=[]) (h:Q .normal a w) :
  ∀ fuel,Qa0 P md ops Q S st fuel listed a w
 | 0=>⟨hr,h⟩
 | _+1=>⟨fun _=>h,by rw[hr];simp⟩
theorem QaT {id:Nat} {a:Act} {w:World} (hm:P.follows .mixedOrders=true) (st:List Nat) (hS:S w.drew)
  (h:S w.drew->Qa0 P .any ops Q S st ops.size (Array.replicate ops.size false) a w.drew):(Code.region id ops true).wp P Q a w:=
 wp_region_any hm (Qdl (S:=S) (st:=st) _ _ _ _ (h hS))
end
theorem lay:(∀ (a:Act) (d:Tmp) (v:Value),a.put (some d) v = { a with tmps:=a.tmps.setIfInBounds d v })/\(∀ (a:Act) (v:Value),a.put none v=a)/\(∀ (l:List Value) (i:Nat) (v:Value),l.toArray.setIfInBounds i v=(l.set i v).toArray) /\
  (∀ (x:Value) (l:List Value) (v:Value),(x :: l).set 0 v=v :: l)/\(∀ (x:Value) (l:List Value) (n:Nat) (v:Value),(x :: l).set (n+1) v=x :: l.set n v):=
 ⟨fun _ _ _=>rfl,fun _ _=>rfl,fun _ _ _=>by simp,fun _ _ _=>rfl,fun _ _ _ _=>rfl⟩
section
variable {P:Program} {ops:Array Oper} {Q:Exit->Act->World->Prop} {md:Region.Mode} {S:World->Prop} {st:List Nat}
def okP (md:Region.Mode) (ops:Array Oper) (st:List Nat) (listed:Array Bool) (i:Nat):Bool:=Region.noSelect ops && Region.free md ops listed i && (Region.ready md ops listed).contains i && !st.contains i
def okK (md:Region.Mode) (ops:Array Oper) (st:List Nat) (listed:Array Bool) (i:Nat):Bool:=Region.noSelect ops && Region.free md ops listed i && (Region.ready md ops listed).contains i && Qcx md ops listed && st.all fun j=>Qdc md ops ops.size j i
theorem tP (i:Nat) {oi:Oper} {v:Value} {fuel:Nat} {listed:Array Bool} {a:Act} {w:World} (hi:ops[i]? = some oi)
  (h:Qa0 P md ops Q S st fuel (listed.setIfInBounds i true) (a.put oi.dst v) w)
  (hB:okP md ops st listed i=true:=by as_aux_lemma=>kernel_rfl)
  (hQ:∀ c a w,Q (.panic c) (a.put oi.dst v) w->Q (.panic c) a w:=by exact fun _ _ _ h=>h)
  (hy:YieldsIf P ops (fun _=>True) oi v a:=by exact Or.inl ⟨by rfl,by(intro w hSw;go_simp;all_goals (with_reducible rfl))⟩)
  (hS:QbI st listed=true->S w:=by first|(intro _;assumption)|(intro h;exact absurd h (by decide))):Qa0 P md ops Q S st (fuel+1) listed a w:=by
 unfold okP at hB;simp only[Bool.and_eq_true,Bool.not_eq_true'] at hB;exact QcI hi hB.1.1.1 hB.1.1.2 hB.1.2 hB.2 hQ hy hS h
theorem tU (i:Nat) {oi:Oper} {fuel:Nat} {listed:Array Bool} {a:Act} {w:World} (hi:ops[i]? = some oi)
  (h:Qa0 P md ops Q S st fuel (listed.setIfInBounds i true) (a.put oi.dst undef) w)
  (hB:okP md ops st listed i=true:=by as_aux_lemma=>kernel_rfl)
  (hQ:∀ c a w,Q (.panic c) (a.put oi.dst undef) w->Q (.panic c) a w:=by exact fun _ _ _ h=>h)
  (hy:YieldsIf P ops (fun _=>True) oi undef a:=by exact Or.inr ⟨by rfl,rfl⟩)
  (hS:QbI st listed=true->S w:=by first|(intro _;assumption)|(intro h;exact absurd h (by decide))):Qa0 P md ops Q S st (fuel+1) listed a w:=by
 unfold okP at hB;simp only[Bool.and_eq_true,Bool.not_eq_true'] at hB;exact QcI hi hB.1.1.1 hB.1.1.2 hB.1.2 hB.2 hQ hy hS h
theorem tK (i:Nat) {oi:Oper} {v:Value} {fuel:Nat} {listed:Array Bool} {a:Act} {w:World} (hi:ops[i]? = some oi)
  (h:Qa0 P md ops Q S st fuel (listed.setIfInBounds i true) (a.put oi.dst v) w)
  (hB:okK md ops st listed i=true:=by as_aux_lemma=>kernel_rfl)
  (hQ:∀ c a w,Q (.panic c) (a.put oi.dst v) w->Q (.panic c) a w:=by exact fun _ _ _ h=>h)
  (hy:YieldsIf P ops S oi v a:=by exact Or.inl ⟨by rfl,by(intro w hSw;(try dsimp only at hSw);go_simp;all_goals (with_reducible rfl))⟩)
  (hS:S w:=by assumption):Qa0 P md ops Q S st (fuel+1) listed a w:=by
 unfold okK at hB;simp only[Bool.and_eq_true] at hB;exact Qfr hi hB.1.1.1.1 hB.1.1.1.2 hB.1.1.2 hB.1.2 hB.2 hQ hy hS h
theorem tL {p q:Prop} (h:q) (e:p=q:=by(try simp only[lay,List.getElem_toArray,List.getElem_cons_succ,List.getElem_cons_zero]);exact rfl):p:=e▸h
theorem pL (i:Nat) {oi:Oper} {v:Value} {fuel:Nat} {listed:Array Bool} {a:Act} {w:World} {G:Prop} (hi:ops[i]? = some oi) (h:G)
  (hB:okP md ops st listed i=true:=by as_aux_lemma=>kernel_rfl)
  (hQ:∀ c a w,Q (.panic c) (a.put oi.dst v) w->Q (.panic c) a w:=by exact fun _ _ _ h=>h)
  (hy:YieldsIf P ops (fun _=>True) oi v a:=by exact Or.inl ⟨by rfl,by(intro w aA;go_simp;all_goals (with_reducible rfl))⟩)
  (hS:QbI st listed=true->S w:=by first|(intro _;assumption)|(intro h;exact absurd h (by decide)))
  (e:Qa0 P md ops Q S st fuel (listed.setIfInBounds i true) (a.put oi.dst v) w=G:=by(try simp only[lay,List.getElem_toArray,List.getElem_cons_succ,List.getElem_cons_zero]);exact rfl):Qa0 P md ops Q S st (fuel+1) listed a w:=tP i hi (e▸h) hB hQ hy hS
theorem uL (i:Nat) {oi:Oper} {fuel:Nat} {listed:Array Bool} {a:Act} {w:World} {G:Prop} (hi:ops[i]? = some oi) (h:G)
  (hB:okP md ops st listed i=true:=by as_aux_lemma=>kernel_rfl)
  (hQ:∀ c a w,Q (.panic c) (a.put oi.dst undef) w->Q (.panic c) a w:=by exact fun _ _ _ h=>h)
  (hy:YieldsIf P ops (fun _=>True) oi undef a:=by exact Or.inr ⟨by rfl,rfl⟩)
  (hS:QbI st listed=true->S w:=by first|(intro _;assumption)|(intro h;exact absurd h (by decide)))
  (e:Qa0 P md ops Q S st fuel (listed.setIfInBounds i true) (a.put oi.dst undef) w=G:=by(try simp only[lay,List.getElem_toArray,List.getElem_cons_succ,List.getElem_cons_zero]);exact rfl):Qa0 P md ops Q S st (fuel+1) listed a w:=tU i hi (e▸h) hB hQ hy hS
theorem kL (i:Nat) {oi:Oper} {v:Value} {fuel:Nat} {listed:Array Bool} {a:Act} {w:World} {G:Prop} (hi:ops[i]? = some oi) (h:G)
  (hB:okK md ops st listed i=true:=by as_aux_lemma=>kernel_rfl)
  (hQ:∀ c a w,Q (.panic c) (a.put oi.dst v) w->Q (.panic c) a w:=by exact fun _ _ _ h=>h)
  (hy:YieldsIf P ops S oi v a:=by exact Or.inl ⟨by rfl,by(intro w aA;(try dsimp only at aA);go_simp;all_goals (with_reducible rfl))⟩)
  (hS:S w:=by assumption)
  (e:Qa0 P md ops Q S st fuel (listed.setIfInBounds i true) (a.put oi.dst v) w=G:=by(try simp only[lay,List.getElem_toArray,List.getElem_cons_succ,List.getElem_cons_zero]);exact rfl):Qa0 P md ops Q S st (fuel+1) listed a w:=tK i hi (e▸h) hB hQ hy hS
theorem oL (i:Nat) {o:Oper} {fuel:Nat} {listed:Array Bool} {a:Act} {w:World} (ho:ops[i]? = some o)
  (h:∀ K':Act->World->Prop,Shut (∀ a w,(QbI st (listed.setIfInBounds i true)=true->S w)->Qa0 P md ops Q S st fuel (listed.setIfInBounds i true) a w->K' a w)->if Region.wanted o (yielded ops a.tmps)=true then Oper.wp P o a w K' Q else K' (a.put o.dst undef) w)
  (hr:Region.ready md ops listed=[i]:=by as_aux_lemma=>kernel_rfl):Qa0 P md ops Q S st (fuel+1) listed a w:=Qbh hr ho h
theorem nxL {K:Act->World->Prop} {fuel:Nat} {listed:Array Bool} {a:Act} {w:World} (hK:Shut (∀ a w,(QbI st listed=true->S w)->Qa0 P md ops Q S st fuel listed a w->K a w)) (hS:S w) (h:S w->Qa0 P md ops Q S st fuel listed a w):K a w:=hK.out _ _ (fun _=>hS) (h hS)
theorem xL {K:Act->World->Prop} {fuel:Nat} {listed:Array Bool} {a:Act} {w:World} (hK:Shut (∀ a w,(QbI st listed=true->S w)->Qa0 P md ops Q S st fuel listed a w->K a w)) (h:Qa0 P md ops Q S st fuel listed a w) (hs:QbI st listed=false:=by decide):K a w:=
 hK.out _ _ (fun e=>by rw[hs] at e;cases e) h
theorem dT {fuel:Nat} {listed:Array Bool} {a:Act} {w:World} (h:Q .normal a w) (hr:Region.ready md ops listed=[]:=by kernel_rfl):Qa0 P md ops Q S st fuel listed a w:=QbJ hr h fuel
end
def Qn {α : Type} (f:Nat -> α) (i:Nat) (v : α):Nat -> α:=fun j=>if j=i then v else f j
theorem Qb {α : Type} (f:Nat -> α) (i:Nat) (v : α):Qn f i v i=v:=if_pos rfl
theorem Qa {α : Type} (f:Nat -> α) {i j:Nat} (v : α) (h:j≠i):Qn f i v j=f j:=if_neg h
def Qbs (ops:Array Oper) (i:Nat):Option Tmp:=(ops[i]?).bind (·.dst)
def Qbj (ops:Array Oper) (ids:List Nat) (x:Nat->Value) (a:Act):Act:=ids.foldl (fun a i=>a.put (Qbs ops i) (x i)) a
def Qbv (ids:List Nat) (b:Nat->Bool) (L:Array Bool):Array Bool:=ids.foldl (fun l i=>l.setIfInBounds i (b i)) L
theorem Qbq (b:Nat->Bool):∀ (ids:List Nat) (L:Array Bool) (j:Nat),(Qbv ids b L)[j]? = if j∈ids/\j<L.size then some (b j) else L[j]?
 | [],L,j=>by simp[Qbv]
 | i :: ids, L, j => by
   show (Qbv ids b (L.setIfInBounds i (b i)))[j]? = _
   rw[Qbq b ids,Array.getElem?_setIfInBounds,Array.size_setIfInBounds];by_cases h2:j<L.size
   ·by_cases h1:j∈ids
    ·rw[if_pos ⟨h1,h2⟩,if_pos ⟨List.mem_cons_of_mem _ h1,h2⟩]
    ·rw[if_neg (fun h=>h1 h.1)];by_cases e:i=j
     ·subst e;rw[if_pos rfl,if_pos h2,if_pos ⟨List.mem_cons_self,h2⟩]
     ·rw[if_neg e,if_neg (fun h=>(List.mem_cons.1 h.1).elim (fun h=>e h.symm) h1)]
   ·have e1:L[j]? = none:=Array.getElem?_eq_none (by omega);simp[e1,h2]
    intro e;omega
theorem QcR (b:Nat->Bool):∀ (ids:List Nat) (L:Array Bool),(Qbv ids b L).size=L.size
 | [],_=>rfl
 | i :: ids,L=>(QcR b ids _).trans (by simp)
theorem Qb2 {ids:List Nat} {b:Nat->Bool} {L:Array Bool} {j:Nat} (h:j∈ids) (hl:j<L.size) (d:Bool):(Qbv ids b L).getD j d=b j:=by
 rw[Array.getD_eq_getD_getElem?,Qbq,if_pos ⟨h,hl⟩];rfl
theorem Qds {ids:List Nat} {b:Nat->Bool} {L:Array Bool} {j:Nat} (h:j∉ids) (d:Bool):(Qbv ids b L).getD j d=L.getD j d:=by
 rw[Array.getD_eq_getD_getElem?,Array.getD_eq_getD_getElem?,Qbq,if_neg (fun hh=>h hh.1)]
theorem Qdm {ids:List Nat} {b:Nat->Bool} {L:Array Bool} {i:Nat} (h:i∈ids):(Qbv ids b L).setIfInBounds i true=Qbv ids (Qn b i true) L:=by
 apply Array.ext_getElem?
 intro j;rw[Array.getElem?_setIfInBounds,Qbq,Qbq,QcR];by_cases e:i=j
 ·subst e;rw[if_pos rfl,Qb];by_cases h2:i<L.size
  ·rw[if_pos h2,if_pos ⟨h,h2⟩]
  ·rw[if_neg h2,if_neg (fun h=>h2 h.2),Array.getElem?_eq_none (by omega)]
 ·rw[if_neg e,Qa _ _ (fun h=>e h.symm)]
theorem Qet {ids:List Nat} {b b':Nat->Bool} (h:∀ i∈ids,b i=b' i) (L:Array Bool):Qbv ids b L=Qbv ids b' L:=by
 apply Array.ext_getElem?
 intro j;rw[Qbq,Qbq];by_cases e:j∈ids/\j<L.size
 ·rw[if_pos e,if_pos e,h j e.1]
 ·rw[if_neg e,if_neg e]
theorem Qfj {ids:List Nat} {L:Array Bool} (h:∀ i∈ids,L.getD i true=false):Qbv ids (fun _=>false) L=L:=by
 apply Array.ext_getElem?
 intro j;rw[Qbq];by_cases e:j∈ids/\j<L.size
 ·rw[if_pos e];have:=h j e.1;rw[Array.getD_eq_getD_getElem?,Array.getElem?_eq_getElem e.2] at this;rw[Array.getElem?_eq_getElem e.2];simpa using this.symm
 ·rw[if_neg e]
theorem Qjd (a:Act) (d e:Option Tmp) (u v:Value) (h:d.isNone=true\/e.isNone=true\/d≠e):(a.put d u).put e v=(a.put e v).put d u:=by
 cases d with
 | none=>rfl
 | some d => cases e with
   | none=>rfl
   | some e =>
     have aA:d≠e:=fun hh=>by
      rcases h with h|h|h
      ·cases h
      ·cases h
      ·exact h (by rw[hh])
     simp only[Act.put];rw[Array.setIfInBounds_comm _ _ aA]
theorem Qkd (a:Act) (d:Option Tmp) (u v:Value):(a.put d u).put d v=a.put d v:=by
 cases d with
 | none=>rfl
 | some d=>simp[Act.put]
theorem Qii (a:Act) (d:Option Tmp):∃ v,a.put d v=a:=by
 cases d with
 | none=>exact⟨undef,rfl⟩
 | some d =>
   refine⟨a.tmps.getD d undef,?_⟩
   have e:a.tmps.setIfInBounds d (a.tmps.getD d undef)=a.tmps:=by
    apply Array.ext_getElem?
    intro j;rw[Array.getElem?_setIfInBounds];by_cases h:d=j
    ·subst h;rw[if_pos rfl];by_cases h2:d<a.tmps.size
     ·rw[if_pos h2,Array.getD_eq_getD_getElem?,Array.getElem?_eq_getElem h2];rfl
     ·rw[if_neg h2,Array.getElem?_eq_none (Nat.le_of_not_lt h2)]
    ·rw[if_neg h]
   show ({ a with tmps:=a.tmps.setIfInBounds d (a.tmps.getD d undef) }:Act)=a
   rw[e]
def Qj4 (ops:Array Oper) (ids:List Nat):Bool:=ids.all fun i=>ids.all fun j=>i == j || (Qbs ops i).isNone || (Qbs ops j).isNone || Qbs ops i != Qbs ops j
theorem Qgd {ops:Array Oper} {ids:List Nat} (h:Qj4 ops ids=true) {i j:Nat} (hi:i∈ids) (hj:j∈ids) (hne:i≠j):(Qbs ops i).isNone=true\/(Qbs ops j).isNone=true\/Qbs ops i≠Qbs ops j:=by
 have:=List.all_eq_true.1 (List.all_eq_true.1 h i hi) j hj;simp only[Bool.or_eq_true,beq_iff_eq,bne_iff_ne] at this;rcases this with ((h|h)|h)|h
 ·exact absurd h hne
 ·exact .inl h
 ·exact .inr (.inl h)
 ·exact .inr (.inr h)
theorem Qdj (ops:Array Oper) (x:Nat->Value) (i:Nat) (v:Value):∀ (ids:List Nat) (a:Act),(∀ j∈ids,(Qbs ops j).isNone=true\/(Qbs ops i).isNone=true\/Qbs ops j≠Qbs ops i)->(Qbj ops ids x a).put (Qbs ops i) v=Qbj ops ids x (a.put (Qbs ops i) v)
 | [],_,_=>rfl
 | j :: ids, a, h => by
   show (Qbj ops ids x (a.put (Qbs ops j) (x j))).put _ _=Qbj ops ids x ((a.put _ _).put (Qbs ops j) (x j))
   rw[Qdj ops x i v ids _ (fun k hk=>h k (List.mem_cons_of_mem _ hk)),Qjd _ _ _ _ _ (h j List.mem_cons_self)]
theorem QcE (ops:Array Oper) {x y:Nat->Value}:∀ (ids:List Nat) (a:Act),(∀ j∈ids,x j=y j)->Qbj ops ids x a=Qbj ops ids y a
 | [],_,_=>rfl
 | j :: ids, a, h => by
   show Qbj ops ids x (a.put _ (x j))=Qbj ops ids y (a.put _ (y j))
   rw[h j List.mem_cons_self,QcE ops ids _ (fun k hk=>h k (List.mem_cons_of_mem _ hk))]
theorem Qdq (ops:Array Oper) (x:Nat->Value) (i:Nat) (v:Value):∀ (ids:List Nat) (a:Act),ids.Nodup->i∈ids->(∀ j∈ids,j≠i->(Qbs ops j).isNone=true\/(Qbs ops i).isNone=true\/Qbs ops j≠Qbs ops i) ->
  (Qbj ops ids x a).put (Qbs ops i) v=Qbj ops ids (Qn x i v) a
 | [],_,_,h,_=>by cases h
 | j :: ids, a, hn, hi, h => by
   obtain⟨hj,hn'⟩:=List.nodup_cons.1 hn;show (Qbj ops ids x (a.put (Qbs ops j) (x j))).put _ _=Qbj ops ids (Qn x i v) (a.put (Qbs ops j) (Qn x i v j))
   by_cases e:j=i
   ·subst e;rw[Qdj ops x j v ids _ (fun k hk=>h k (List.mem_cons_of_mem _ hk) (fun e=>hj (by rw[<- e];exact hk))),Qkd,Qb];exact QcE ops ids _ fun k hk=>(Qa _ _ (fun e=>hj (by rw[<- e];exact hk))).symm
   ·rw[Qa _ _ e];refine Qdq ops x i v ids _ hn' ?_ (fun k hk=>h k (List.mem_cons_of_mem _ hk));rcases List.mem_cons.1 hi with hi|hi
    ·exact absurd hi.symm e
    ·exact hi
theorem Qfs (ops:Array Oper) (a:Act) (ids:List Nat):∃ x,Qbj ops ids x a=a:=by
 obtain⟨f,hf⟩:=Classical.axiomOfChoice fun i=>Qii a (Qbs ops i);refine⟨f,?_⟩;induction ids with
 | nil=>rfl
 | cons i ids ih =>
   show Qbj ops ids f (a.put (Qbs ops i) (f i))=a
   rw[hf i];exact ih
section
variable {P:Program} {ops:Array Oper} {Q:Exit->Act->World->Prop} {md:Region.Mode} {S:World->Prop} {st:List Nat}
def QdW (md:Region.Mode) (ops:Array Oper) (ids:List Nat) (i:Nat):List Nat:=match ops[i]? with
 | none=>[]
 | some o=>ids.filter fun j=>o.after.any fun e=>Region.binds md e && e.on == j
def Qlb (md:Region.Mode) (ops:Array Oper) (ids:List Nat) (L:Array Bool):Bool:=
 (ids.all fun i=>decide (i<L.size) && !L.getD i true && match ops[i]? with
  | none=>false
  | some o=>o.after.all fun e=>!Region.binds md e || L.getD e.on false || (ids.contains e.on && decide (e.on<i))) &&
 ((List.range ops.size).all fun j=>ids.contains j || L.getD j true || ids.all fun i=>Qdc md ops ops.size j i)
theorem QdU (ids:List Nat) {L0:Array Bool} {a0:Act} {w0:World} {fuel:Nat} (F:Nat) (J:(Nat->Bool)->(Nat->Value)->World->Prop)
  (hfuel:fuel=F+ids.length) (hnd:ids.Nodup) (hd:Qj4 ops ids=true) (hcl:Qcx md ops L0=true) (hids:Qlb md ops ids L0=true)
  (hS:∀ b x w,J b x w->S w) (h0:∀ x,J (fun _=>false) x w0)
  (hstep:∀ i∈ids,∀ b x w,J b x w->b i=false->(∀ j,(QdW md ops ids i).contains j=true->b j=true)->∀ o,ops[i]? = some o->∀ K':Act->World->Prop,
   Shut (∀ v w',J (Qn b i true) (Qn x i v) w'->K' ((Qbj ops ids x a0).put o.dst v) w') ->
   if Region.wanted o (yielded ops (Qbj ops ids x a0).tmps)=true then Oper.wp P o (Qbj ops ids x a0) w K' Q else K' ((Qbj ops ids x a0).put o.dst undef) w)
  (hdone:∀ b x w,(∀ i∈ids,b i=true)->J b x w->Qa0 P md ops Q S st F (Qbv ids (fun _=>true) L0) (Qbj ops ids x a0) w) :
  Qa0 P md ops Q S st fuel L0 a0 w0:=by
 unfold Qlb at hids;rw[Bool.and_eq_true] at hids;obtain⟨aR,aQ⟩:=hids
 have aA:∀ i∈ids,i<L0.size/\L0.getD i true=false/\∃ o,ops[i]? = some o/\∀ e∈o.after,Region.binds md e=true->L0.getD e.on false=true\/(e.on∈ids/\e.on<i):=fun i hi=>by
  have h:=List.all_eq_true.1 aR i hi;rw[Bool.and_eq_true,Bool.and_eq_true] at h;obtain⟨⟨h1,h2⟩,h3⟩:=h;refine⟨by simpa using h1,by simpa using h2,?_⟩
  cases ho:ops[i]? with
  | none=>rw[ho] at h3;cases h3
  | some o =>
    rw[ho] at h3;refine⟨o,rfl,fun e he hb=>?_⟩;have h4:=Array.all_eq_true_iff_forall_mem.1 h3 e he;rw[hb] at h4;simp only[Bool.not_true,Bool.false_or,Bool.or_eq_true,Bool.and_eq_true,decide_eq_true_eq,List.contains_iff_mem] at h4;exact h4
 have aI:∀ (n:Nat) (b:Nat->Bool) (x:Nat->Value) (w:World),J b x w->Closed md ops (Qbv ids b L0)->(ids.filter fun i=>!b i).length=n->Qa0 P md ops Q S st (F+n) (Qbv ids b L0) (Qbj ops ids x a0) w:=by
  intro n;induction n with
  | zero =>
    intro b x w hJ hC hn
    have aC:∀ i∈ids,b i=true:=fun i hi=>by
     have h:=List.eq_nil_of_length_eq_zero hn;rw[List.filter_eq_nil_iff] at h;simpa using h i hi
    rw[Qet (b':=fun _=>true) aC L0];exact hdone b x w aC hJ
  | succ n ih =>
    intro b x w hJ hC hn
    have aH:∃ i∈ids,b i=false:=by
     have:(ids.filter fun i=>!b i)≠[]:=fun h=>by rw[h] at hn;simp at hn
     obtain⟨i,hi⟩:=List.exists_mem_of_ne_nil _ this;rw[List.mem_filter] at hi;exact⟨i,hi.1,by simpa using hi.2⟩
    refine⟨fun hr=>?_,fun i hi=>?_⟩
    ·exfalso
     have:∀ (i:Nat),i∈ids->b i=false->False:=by
      intro i;induction i using Nat.strongRecOn with
      | _ i ihi =>
        intro hi hb;obtain⟨aD,aB,o,ho,ha⟩:=aA i hi
        have hm:i∈Region.ready md ops (Qbv ids b L0):=mem_ready.2 ⟨by rw[Qb2 hi aD];exact hb,o,ho,fun e he hbd=>by
         rcases ha e he hbd with h|⟨h1,h2⟩
         ·by_cases hm:e.on∈ids
          ·have:=(aA _ hm).2.1
           exact absurd h (by
            intro h;have h5:=(aA _ hm).1;simp[h5] at h this
            rw[h] at this;cases this)
          ·rw[Qds hm];exact h
         ·rw[Qb2 h1 (aA _ h1).1]
          cases hbe:b e.on with
          | true=>rfl
          | false=>exact absurd hbe fun hbe=>ihi _ h2 h1 hbe⟩
        rw[hr] at hm
        cases hm
     obtain⟨i,hi,hb⟩:=aH;exact this i hi hb
    ·obtain⟨aB,o,ho,ha⟩:=mem_ready.1 hi;by_cases hm:i∈ids
     ·obtain⟨aD,-,-⟩:=aA i hm;rw[Qb2 hm aD] at aB;refine wpOp_step ho fun K' hK=>hstep i hm b x w hJ aB (fun j hj=>?_) o ho K' (fun v w' hJ'=>hK _ _ ⟨fun _=>hS _ _ _ hJ',?_⟩)
      ·unfold QdW at hj;rw[ho] at hj;have aG:j∈ids.filter fun j=>o.after.any fun e=>Region.binds md e && e.on == j:=by simpa using hj
       rw[List.mem_filter] at aG;obtain⟨aF,aO⟩:=aG;obtain⟨e,he,h3⟩:=Array.any_eq_true'.1 aO;rw[Bool.and_eq_true,beq_iff_eq] at h3;have:=ha e he h3.1;rw[h3.2,Qb2 aF (aA _ aF).1] at this;exact this
      ·have aS:o.dst=Qbs ops i:=by unfold Qbs;rw[ho];rfl
       rw[aS,Qdq ops x i v ids a0 hnd hm (fun j hj hne=>Qgd hd hj hm hne),Qdm hm];refine ih _ _ _ hJ' ?_ ?_
       ·rw[<- Qdm hm];exact hC.set hi
       ·have h1:∀ (l:List Nat),l.Nodup->i∈l->(l.filter fun j=>!b j).length=(l.filter fun j=>!Qn b i true j).length+1:=by
         intro l;induction l with
         | nil=>intro _ h;cases h
         | cons k l ihl =>
           intro hl hk;obtain⟨aL,aK⟩:=List.nodup_cons.1 hl;by_cases e:k=i
           ·subst e;rw[List.filter_cons_of_pos (by simp[aB]),List.filter_cons_of_neg (by simp[Qb]),List.length_cons];congr 2
            refine List.filter_congr fun j hj=>?_;rw[Qa _ _ (fun e=>aL (by rw[<- e];exact hj))]
           ·have aM:i∈l:=(List.mem_cons.1 hk).elim (fun h=>absurd h.symm e) (fun h=>h);have:=ihl aK aM;rw[List.filter_cons,List.filter_cons,Qa _ _ e];split
            ·simp only[List.length_cons];omega
            ·exact this
        have:=h1 ids hnd hm;omega
     ·exfalso
      rw[Qds hm] at aB;have aP:i<ops.size:=(Ql ho).1;have h3:=List.all_eq_true.1 aQ i (List.mem_range.2 aP);rw[aB] at h3;have aJ:ids.contains i=false:=by rw[Bool.eq_false_iff];intro h;exact hm (by simpa using h)
      rw[aJ] at h3;simp only[Bool.false_or] at h3;obtain⟨j,hj,hb⟩:=aH;have:=Qb0 hC _ i j (List.all_eq_true.1 h3 j hj) (fun o' ho' e he hbd=>by rw[ho] at ho';cases ho';exact ha e he hbd);rw[Qb2 hj (aA _ hj).1,hb] at this
      cases this
 obtain⟨x,hx⟩:=Qfs ops a0 ids;have aE:=Qfj (ids:=ids) (L:=L0) fun i hi=>(aA i hi).2.1;have:=aI ids.length (fun _=>false) x w0 (h0 x) (by rw[aE];exact QeB hcl) (by simp);rw[aE,hx,<- hfuel] at this;exact this
def Qcv (ds:List (Nat×Option Tmp)) (x:Nat->Value) (a:Act):Act:=ds.foldl (fun a p=>a.put p.2 (x p.1)) a
def dsB (ops:Array Oper) (ds:List (Nat×Option Tmp)):Bool:=ds.all fun p=>Qbs ops p.1 == p.2
theorem QdP {ops:Array Oper} (x:Nat->Value):∀ (ds:List (Nat×Option Tmp)) (a:Act),dsB ops ds=true->Qbj ops (ds.map Prod.fst) x a=Qcv ds x a
 | [],_,_=>rfl
 | p :: ds, a, h => by
   unfold dsB at h;rw[List.all_cons,Bool.and_eq_true,beq_iff_eq] at h;show Qbj ops (ds.map Prod.fst) x (a.put (Qbs ops p.1) (x p.1))=Qcv ds x (a.put p.2 (x p.1))
   rw[h.1];exact QdP x ds _ h.2
theorem Qa5 (ds:List (Nat×Option Tmp)) (F:Nat) (J:(Nat->Bool)->(Nat->Value)->World->Prop) {L0:Array Bool} {a0:Act} {w0:World} {fuel:Nat}
  (hfuel:fuel=F+ds.length) (hds:dsB ops ds=true) (hnd:(ds.map Prod.fst).Nodup) (hd:Qj4 ops (ds.map Prod.fst)=true) (hcl:Qcx md ops L0=true) (hids:Qlb md ops (ds.map Prod.fst) L0=true)
  (hS:∀ b x w,J b x w->S w) (h0:∀ x,J (fun _=>false) x w0)
  (hstep:∀ i∈ds.map Prod.fst,∃ o,ops[i]? = some o/\∀ b x w,J b x w->b i=false->(∀ j,(QdW md ops (ds.map Prod.fst) i).contains j=true->b j=true)->∀ K':Act->World->Prop,
   Shut (∀ v w',J (Qn b i true) (Qn x i v) w'->K' ((Qcv ds x a0).put o.dst v) w') ->
   if Region.wanted o (yielded ops (Qcv ds x a0).tmps)=true then Oper.wp P o (Qcv ds x a0) w K' Q else K' ((Qcv ds x a0).put o.dst undef) w)
  (hdone:∀ b x w,(∀ i∈ds.map Prod.fst,b i=true)->J b x w->Qa0 P md ops Q S st F (Qbv (ds.map Prod.fst) (fun _=>true) L0) (Qcv ds x a0) w) :
  Qa0 P md ops Q S st fuel L0 a0 w0:=by
 refine QdU (ds.map Prod.fst) F J (by rw[hfuel,List.length_map]) hnd hd hcl hids hS h0 (fun i hi b x w hJ hb hw o ho K' hK=>?_) (fun b x w hb hJ=>?_)
 ·obtain⟨o',aA,h⟩:=hstep i hi;rw[ho] at aA
  cases aA
  rw[QdP x ds a0 hds] at hK |-;exact h b x w hJ hb hw K' hK
 ·rw[QdP x ds a0 hds];exact hdone b x w hb hJ
end
theorem Qba:(∀ (p:Nat×Option Tmp) (ds:List (Nat×Option Tmp)) (x:Nat->Value) (a:Act),Qcv (p :: ds) x a=Qcv ds x (a.put p.2 (x p.1)))/\(∀ (x:Nat->Value) (a:Act),Qcv [] x a=a)/\(∀ (a:Act) (d:Tmp) (v:Value),a.put (some d) v = { a with tmps:=a.tmps.setIfInBounds d v })/\(∀ (a:Act) (v:Value),a.put none v=a)/\(∀ {α : Type} (l:List α) (i:Nat) (v : α),l.toArray.setIfInBounds i v=(l.set i v).toArray) /\
  (∀ {α : Type} (x : α) (l:List α) (v : α),(x :: l).set 0 v=v :: l)/\(∀ {α : Type} (x : α) (l:List α) (n:Nat) (v : α),(x :: l).set (n+1) v=x :: l.set n v):=
 ⟨fun _ _ _ _=>rfl,fun _ _=>rfl,fun _ _ _=>rfl,fun _ _=>rfl,fun _ _ _=>by simp,fun _ _ _=>rfl,fun _ _ _ _=>rfl⟩
theorem QfQ:(∀ (p:Nat×Option Tmp) (ds:List (Nat×Option Tmp)) (x:Nat->Value) (a:Act),Qcv (p :: ds) x a=Qcv ds x (a.put p.2 (x p.1)))/\(∀ (x:Nat->Value) (a:Act),Qcv [] x a=a) /\
  (∀ (i:Nat) (ids:List Nat) (b:Nat->Bool) (L:Array Bool),Qbv (i :: ids) b L=Qbv ids b (L.setIfInBounds i (b i)))/\(∀ (b:Nat->Bool) (L:Array Bool),Qbv [] b L=L) /\
  (∀ (p:Nat×Option Tmp) (ds:List (Nat×Option Tmp)),(p :: ds).map Prod.fst=p.1 :: ds.map Prod.fst)/\(([]:List (Nat×Option Tmp)).map Prod.fst=[])/\(∀ (a:Act) (d:Tmp) (v:Value),a.put (some d) v = { a with tmps:=a.tmps.setIfInBounds d v })/\(∀ (a:Act) (v:Value),a.put none v=a)/\(∀ {α : Type} (l:List α) (i:Nat) (v : α),l.toArray.setIfInBounds i v=(l.set i v).toArray) /\
  (∀ {α : Type} (x : α) (l:List α) (v : α),(x :: l).set 0 v=v :: l)/\(∀ {α : Type} (x : α) (l:List α) (n:Nat) (v : α),(x :: l).set (n+1) v=x :: l.set n v):=
 ⟨fun _ _ _ _=>rfl,fun _ _=>rfl,fun _ _ _ _=>rfl,fun _ _=>rfl,fun _ _=>rfl,rfl,fun _ _ _=>rfl,fun _ _=>rfl,fun _ _ _=>by simp,fun _ _ _=>rfl,fun _ _ _ _=>rfl⟩
