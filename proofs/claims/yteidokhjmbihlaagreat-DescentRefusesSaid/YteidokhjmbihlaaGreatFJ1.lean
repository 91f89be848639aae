/-
  factor's builder: start, done.
-/
import Derived.Shelf.SlSortCmp.WholeK
import Derived.Shelf.SlSortCmp.NoneTotal
import Derived.Test.YteidokhjmbihlaaGreatProg
import Derived.Test.YteidokhjmbihlaaGreatFI1
import Derived.Test.YteidokhjmbihlaaGreatFG1
set_option linter.all false
set_option maxRecDepth 100000
set_option maxHeartbeats 4000000
namespace Go.Proofs
open Go.Shelf
def Tryz.srtI_ren:Go.Shelf.Ren:=⟨fun|6=>123|14=>168|15=>169|20=>202|21=>203|22=>204|23=>205|24=>206|25=>207|26=>208|27=>209|28=>210|29=>211|46=>226|47=>227|48=>228|49=>229|50=>230|57=>236|n=>n,fun|0=>0|3=>3|4=>4|5=>5|9=>9|22=>46|24=>33|25=>72|39=>100|45=>248|46=>249|50=>130|53=>139|55=>138|66=>270|70=>274|76=>282|77=>283|n=>n,fun|n=>n⟩
theorem Tryz.srtI:Go.Proofs.SlLaysF0.n6 Tryz.prog Tryz.srtI_ren:={
 mixed:=by kernel_rfl
 f6:=⟨Tryz.f123.name,by kernel_rfl,Tryz.func123.trans (congrArg some (by kernel_rfl))⟩
 f14:=⟨Tryz.f168.name,by kernel_rfl,Tryz.func168.trans (congrArg some (by kernel_rfl))⟩
 f15:=Tryz.func169.trans (congrArg some (by kernel_rfl))
 f20:=⟨Tryz.f202.name,by kernel_rfl,Tryz.func202.trans (congrArg some (by kernel_rfl))⟩
 f21:=⟨Tryz.f203.name,by kernel_rfl,Tryz.func203.trans (congrArg some (by kernel_rfl))⟩
 f22:=⟨Tryz.f204.name,by kernel_rfl,Tryz.func204.trans (congrArg some (by kernel_rfl))⟩
 f23:=⟨Tryz.f205.name,by kernel_rfl,Tryz.func205.trans (congrArg some (by kernel_rfl))⟩
 f24:=⟨Tryz.f206.name,by kernel_rfl,Tryz.func206.trans (congrArg some (by kernel_rfl))⟩
 f25:=⟨Tryz.f207.name,by kernel_rfl,Tryz.func207.trans (congrArg some (by kernel_rfl))⟩
 f26:=⟨Tryz.f208.name,by kernel_rfl,Tryz.func208.trans (congrArg some (by kernel_rfl))⟩
 f27:=⟨Tryz.f209.name,by kernel_rfl,Tryz.func209.trans (congrArg some (by kernel_rfl))⟩
 f28:=Tryz.func210.trans (congrArg some (by kernel_rfl))
 f29:=Tryz.func211.trans (congrArg some (by kernel_rfl))
 f46:=⟨Tryz.f226.name,by kernel_rfl,Tryz.func226.trans (congrArg some (by kernel_rfl))⟩
 f47:=Tryz.func227.trans (congrArg some (by kernel_rfl))
 f48:=Tryz.func228.trans (congrArg some (by kernel_rfl))
 f49:=⟨Tryz.f229.name,by kernel_rfl,Tryz.func229.trans (congrArg some (by kernel_rfl))⟩
 f50:=⟨Tryz.f230.name,by kernel_rfl,Tryz.func230.trans (congrArg some (by kernel_rfl))⟩
 f57:=⟨Tryz.f236.name,by kernel_rfl,Tryz.func236.trans (congrArg some (by kernel_rfl))⟩
 t0:=Tryz.underlying0
 a0:=Tryz.isAgg0
 z0:=Tryz.sizeOf0
 v0:=Tryz.zeroValue0
 t3:=Tryz.underlying3
 a3:=Tryz.isAgg3
 z3:=Tryz.sizeOf3
 v3:=Tryz.zeroValue3
 t4:=Tryz.underlying4
 a4:=Tryz.isAgg4
 z4:=Tryz.sizeOf4
 v4:=Tryz.zeroValue4
 t5:=Tryz.underlying5
 a5:=Tryz.isAgg5
 z5:=Tryz.sizeOf5
 v5:=Tryz.zeroValue5
 t9:=Tryz.underlying9
 a9:=Tryz.isAgg9
 z9:=Tryz.sizeOf9
 v9:=Tryz.zeroValue9
 t22:=Tryz.underlying46
 a22:=Tryz.isAgg46
 z22:=Tryz.sizeOf46
 v22:=Tryz.zeroValue46
 t25:=Tryz.underlying72
 a25:=Tryz.isAgg72
 z25:=Tryz.sizeOf72
 v25:=Tryz.zeroValue72
 t39:=Tryz.underlying100
 a39:=Tryz.isAgg100
 z39:=Tryz.sizeOf100
 v39:=Tryz.zeroValue100
 t45:=Tryz.underlying248
 a45:=Tryz.isAgg248
 z45:=Tryz.sizeOf248
 v45:=Tryz.zeroValue248
 t46:=Tryz.underlying249
 a46:=Tryz.isAgg249
 z46:=Tryz.sizeOf249
 v46:=Tryz.zeroValue249
 t50:=Tryz.underlying130
 a50:=Tryz.isAgg130
 z50:=Tryz.sizeOf130
 v50:=Tryz.zeroValue130
 t53:=Tryz.underlying139
 a53:=Tryz.isAgg139
 z53:=Tryz.sizeOf139
 v53:=Tryz.zeroValue139
 t55:=Tryz.underlying138
 a55:=Tryz.isAgg138
 z55:=Tryz.sizeOf138
 v55:=Tryz.zeroValue138
 t66:=Tryz.underlying270
 a66:=Tryz.isAgg270
 z66:=Tryz.sizeOf270
 v66:=Tryz.zeroValue270
 t70:=Tryz.underlying274
 a70:=Tryz.isAgg274
 z70:=Tryz.sizeOf274
 v70:=Tryz.zeroValue274
 t76:=Tryz.underlying282
 a76:=Tryz.isAgg282
 z76:=Tryz.sizeOf282
 v76:=Tryz.zeroValue282
 t77:=Tryz.underlying283
 a77:=Tryz.isAgg283
 z77:=Tryz.sizeOf283
 v77:=Tryz.zeroValue283 }
def Tryz.srtP_ren:Go.Shelf.Ren:=⟨fun|6=>216|14=>235|15=>169|20=>239|21=>240|22=>241|23=>242|24=>243|25=>244|26=>245|27=>246|28=>210|29=>211|46=>247|47=>227|48=>228|49=>248|50=>249|57=>250|n=>n,fun|0=>0|3=>3|4=>4|5=>5|9=>9|22=>144|24=>147|25=>262|39=>100|45=>248|46=>249|50=>130|53=>139|55=>138|66=>270|70=>274|76=>282|77=>283|n=>n,fun|n=>n⟩
theorem Tryz.srtP:Go.Proofs.SlLaysF0.n6 Tryz.prog Tryz.srtP_ren:={
 mixed:=by kernel_rfl
 f6:=⟨Tryz.f216.name,by kernel_rfl,Tryz.func216.trans (congrArg some (by kernel_rfl))⟩
 f14:=⟨Tryz.f235.name,by kernel_rfl,Tryz.func235.trans (congrArg some (by kernel_rfl))⟩
 f15:=Tryz.func169.trans (congrArg some (by kernel_rfl))
 f20:=⟨Tryz.f239.name,by kernel_rfl,Tryz.func239.trans (congrArg some (by kernel_rfl))⟩
 f21:=⟨Tryz.f240.name,by kernel_rfl,Tryz.func240.trans (congrArg some (by kernel_rfl))⟩
 f22:=⟨Tryz.f241.name,by kernel_rfl,Tryz.func241.trans (congrArg some (by kernel_rfl))⟩
 f23:=⟨Tryz.f242.name,by kernel_rfl,Tryz.func242.trans (congrArg some (by kernel_rfl))⟩
 f24:=⟨Tryz.f243.name,by kernel_rfl,Tryz.func243.trans (congrArg some (by kernel_rfl))⟩
 f25:=⟨Tryz.f244.name,by kernel_rfl,Tryz.func244.trans (congrArg some (by kernel_rfl))⟩
 f26:=⟨Tryz.f245.name,by kernel_rfl,Tryz.func245.trans (congrArg some (by kernel_rfl))⟩
 f27:=⟨Tryz.f246.name,by kernel_rfl,Tryz.func246.trans (congrArg some (by kernel_rfl))⟩
 f28:=Tryz.func210.trans (congrArg some (by kernel_rfl))
 f29:=Tryz.func211.trans (congrArg some (by kernel_rfl))
 f46:=⟨Tryz.f247.name,by kernel_rfl,Tryz.func247.trans (congrArg some (by kernel_rfl))⟩
 f47:=Tryz.func227.trans (congrArg some (by kernel_rfl))
 f48:=Tryz.func228.trans (congrArg some (by kernel_rfl))
 f49:=⟨Tryz.f248.name,by kernel_rfl,Tryz.func248.trans (congrArg some (by kernel_rfl))⟩
 f50:=⟨Tryz.f249.name,by kernel_rfl,Tryz.func249.trans (congrArg some (by kernel_rfl))⟩
 f57:=⟨Tryz.f250.name,by kernel_rfl,Tryz.func250.trans (congrArg some (by kernel_rfl))⟩
 t0:=Tryz.underlying0
 a0:=Tryz.isAgg0
 z0:=Tryz.sizeOf0
 v0:=Tryz.zeroValue0
 t3:=Tryz.underlying3
 a3:=Tryz.isAgg3
 z3:=Tryz.sizeOf3
 v3:=Tryz.zeroValue3
 t4:=Tryz.underlying4
 a4:=Tryz.isAgg4
 z4:=Tryz.sizeOf4
 v4:=Tryz.zeroValue4
 t5:=Tryz.underlying5
 a5:=Tryz.isAgg5
 z5:=Tryz.sizeOf5
 v5:=Tryz.zeroValue5
 t9:=Tryz.underlying9
 a9:=Tryz.isAgg9
 z9:=Tryz.sizeOf9
 v9:=Tryz.zeroValue9
 t22:=Tryz.underlying144
 a22:=Tryz.isAgg144
 z22:=Tryz.sizeOf144
 v22:=Tryz.zeroValue144
 t25:=Tryz.underlying262
 a25:=Tryz.isAgg262
 z25:=Tryz.sizeOf262
 v25:=Tryz.zeroValue262
 t39:=Tryz.underlying100
 a39:=Tryz.isAgg100
 z39:=Tryz.sizeOf100
 v39:=Tryz.zeroValue100
 t45:=Tryz.underlying248
 a45:=Tryz.isAgg248
 z45:=Tryz.sizeOf248
 v45:=Tryz.zeroValue248
 t46:=Tryz.underlying249
 a46:=Tryz.isAgg249
 z46:=Tryz.sizeOf249
 v46:=Tryz.zeroValue249
 t50:=Tryz.underlying130
 a50:=Tryz.isAgg130
 z50:=Tryz.sizeOf130
 v50:=Tryz.zeroValue130
 t53:=Tryz.underlying139
 a53:=Tryz.isAgg139
 z53:=Tryz.sizeOf139
 v53:=Tryz.zeroValue139
 t55:=Tryz.underlying138
 a55:=Tryz.isAgg138
 z55:=Tryz.sizeOf138
 v55:=Tryz.zeroValue138
 t66:=Tryz.underlying270
 a66:=Tryz.isAgg270
 z66:=Tryz.sizeOf270
 v66:=Tryz.zeroValue270
 t70:=Tryz.underlying274
 a70:=Tryz.isAgg274
 z70:=Tryz.sizeOf274
 v70:=Tryz.zeroValue274
 t76:=Tryz.underlying282
 a76:=Tryz.isAgg282
 z76:=Tryz.sizeOf282
 v76:=Tryz.zeroValue282
 t77:=Tryz.underlying283
 a77:=Tryz.isAgg283
 z77:=Tryz.sizeOf283
 v77:=Tryz.zeroValue283 }
end Go.Proofs
namespace Go.Proofs.YteidokhjmbihlaaGreat
open Go.RowKit Go.Sort
def Cel {α : Type} (E:Elt α) (w:World) (q : α -> Prop):Type:={ t:List Value × α // E.ok w t.1 t.2/\q t.2 }
section
variable {α : Type} {E:Elt α} {w:World} {q : α -> Prop}
theorem Qb3 (enc:Cel E w q->List Value) [Inhabited (Cel E w q)] (k g m:Nat) (dk:Array (Cel E w q)) (os:Array Obj):ButS (fun i=>i=g) w (sortWorldK enc k w g 0 m dk os):=by
 refine⟨rfl,rfl,rfl,?_,fun i hi hn=>?_⟩
 ·simp[sortWorldK,grow,putRowK,putRow,mapBlock,Sort.ahead]
 ·have:¬ g=i:=fun e=>hn e.symm;simp only[sortWorldK,grow,putRowK,putRow,mapBlock,Sort.ahead];rw[Array.getElem?_append_left (by simpa using hi),Array.getElem?_modify,if_neg this]
theorem Qdx [Inhabited (Cel E w q)] {base g cap:Nat} {l:List α} (h:So E w base (.slice (some ⟨g,0,none⟩) l.length cap) l) (hq:∀ x∈l,q x) :
  ∃ d:Array (Cel E w q),d.size=l.length/\d.toList.map (fun t=>t.1.2)=l/\HoldsK (fun t:Cel E w q=>t.1.1) E.k w g 0 d /\
   ∀ (d':Array (Cel E w q)) (n:Nat) (os:Array Obj),d'.size=l.length->So E (sortWorldK (fun t:Cel E w q=>t.1.1) E.k w g 0 n d' os) base (.slice (some ⟨g,0,none⟩) l.length cap) (d'.toList.map fun t=>t.1.2):=by
 have hS:=h.nw g rfl;have aG:=h.lt g rfl;have aF:=h.sc
 have aJ:∀ i,∃ cs:List Value,∀ hi:i<l.length,E.ok w cs l[i]/\∀ j u,cs[j]? = some u->w.cell? ⟨g,0+i*E.k+j,none⟩=some u:=fun i=>by
  by_cases hi:i<l.length
  ·obtain⟨cs,h1,h2⟩:=aF i hi;exact⟨cs,fun _=>⟨h1,h2⟩⟩
  ·exact⟨[],fun h=>absurd h hi⟩
 obtain⟨C,hC⟩:=Classical.axiomOfChoice aJ;obtain⟨xs,⟨k1,k2⟩,k3,k4⟩:=h;rcases k2 with ⟨e,-⟩|⟨g',cap',cur,e,q3,q4,q5,q6,q7,q8⟩
 ·injection e with e1;cases e1
 injection e with e1 e2 e3;injection e1 with e1;injection e1 with e1;subst e1 e3;obtain⟨F,hF⟩:∃ F:Fin l.length->Cel E w q,∀ i:Fin l.length,(F i).1=(C i,l[i.1]):=⟨fun i=>⟨(C i,l[i.1]),(hC i i.2).1,hq _ (List.getElem_mem _)⟩,fun i=>rfl⟩;refine⟨Array.ofFn F,by simp,?_,?_,?_⟩
 ·rw[Array.toList_ofFn];apply List.ext_getElem
  ·simp
  ·intro i h1 h2;simp[hF]
 ·intro t ht;rw[size_flatK,Array.size_ofFn] at ht;have hk:=E.hk;have hi:t/E.k<l.length:=(Nat.div_lt_iff_lt_mul hk).2 ht;have hj:t%E.k<E.k:=Nat.mod_lt _ hk;obtain⟨h1,h2⟩:=hC (t/E.k) hi;have aA:=E.len h1;refine⟨?_,?_⟩
  ·rw[get_flatK _ _ _ _ (by simpa using ht)]
   have e2:(Array.ofFn F)[t/E.k]! = F ⟨t/E.k,hi⟩:=by
    rw[getElem!_pos _ _ (by simpa using hi)];simp
   rw[e2,hF]
   have h3:(C (t/E.k))[t%E.k]? = some ((C (t/E.k))[t%E.k]!):=by
    rw[getElem!_pos _ _ (by rw[aA];exact hj),Zk4 (by rw[aA];exact hj)]
   have h4:=h2 _ _ h3;rw[show 0+t/E.k*E.k+t%E.k=0+t by have:=Nat.div_add_mod t E.k;rw[Nat.mul_comm] at this;omega] at h4;exact h4
  ·simp[World.frozen?,q4]
 ·intro d' n os hs;have aK:=Qb3 (fun t:Cel E w q=>t.1.1) E.k g n d' os
  have aC:(sortWorldK (fun t:Cel E w q=>t.1.1) E.k w g 0 n d' os).heap[g]? = some (.cells (putCells id 0 (flatK (fun t:Cel E w q=>t.1.1) E.k d') cur) E.T (0,0)):=by
   simp only[sortWorldK,grow,putRowK,putRow,mapBlock,Sort.ahead];rw[Array.getElem?_append_left (by simpa using aG.2),Array.getElem?_modify,if_pos rfl,q4];rfl
  have aD:(putCells id 0 (flatK (fun t:Cel E w q=>t.1.1) E.k d') cur).size=cap*E.k:=by
   simp[putCells,q7]
  have aI:l.length*E.k<=cur.size:=by rw[q7];exact Nat.mul_le_mul_right _ q5
  have aE:∀ i (hi:i<l.length) j,j<E.k->(putCells id 0 (flatK (fun t:Cel E w q=>t.1.1) E.k d') cur)[i*E.k+j]? = (d'[i]'(by omega)).1.1[j]?:=by
   intro i hi j hj
   have aB:i*E.k+j<l.length*E.k:=by
    calc i*E.k+j<i*E.k+E.k:=by omega
     _=(i+1)*E.k:=by rw[Nat.add_mul];omega
     _<=l.length*E.k:=Nat.mul_le_mul_right _ (by omega)
   have aA:=E.len (d'[i]'(by omega)).2.1
   have e1:(i*E.k+j)/E.k=i:=by
    rw[Nat.mul_comm,Nat.mul_add_div E.hk,Nat.div_eq_of_lt hj,Nat.add_zero]
   have e2:(i*E.k+j)%E.k=j:=by
    rw[Nat.mul_comm,Nat.mul_add_mod,Nat.mod_eq_of_lt hj]
   have e3:=get_flatK (fun t:Cel E w q=>t.1.1) E.k d' (i*E.k+j) (by rw[hs];exact aB);rw[e1,e2,getElem!_pos d' i (by omega)] at e3;simp only[putCells,Array.getElem?_mapIdx];rw[Array.getElem?_eq_getElem (by omega)];simp only[Option.map_some,Nat.zero_le,true_and,size_flatK,Nat.zero_add,hs,aB,if_true,Nat.sub_zero,id];rw[e3,getElem!_pos _ _ (by rw[aA];exact hj),Zk4 (by rw[aA];exact hj)]
  have aL:Alc noW w g:=Qg8 hS;refine⟨(putCells id 0 (flatK (fun t:Cel E w q=>t.1.1) E.k d') cur).toList.take (l.length*E.k),⟨?_,.inr ⟨g,cap,_,by simp[hs],q3,aC,by simp[hs];exact q5,q6,aD,by simp[hs]⟩⟩,fun i hi=>?_,fun g' hg'=>?_⟩
  ·simp[hs,aD]
   rw[Nat.min_eq_left q5]
  ·have aH:i<l.length:=by simpa [hs] using hi
   refine⟨(d'[i]'(by omega)).1.1,?_,fun j u e=>?_⟩
   ·have:=E.fr aK (fun g' hg'=>by rw[hg'];exact hS) (d'[i]'(by omega)).2.1;simpa using this
   ·have aA:=E.len (d'[i]'(by omega)).2.1;have hj:j<E.k:=by rw[<- aA];exact(List.getElem?_eq_some_iff.1 e).1
    have aB:i*E.k+j<l.length*E.k:=by
     calc i*E.k+j<i*E.k+E.k:=by omega
      _=(i+1)*E.k:=by rw[Nat.add_mul];omega
      _<=l.length*E.k:=Nat.mul_le_mul_right _ (by omega)
    rw[List.getElem?_take_of_lt aB,Array.getElem?_toList,aE i aH j hj];exact e
  ·have:g'=g:=by simp[Value.ownBlock] at hg';exact hg'.symm
   subst this;refine YW (Alc.of aC ?_);intro u hu;obtain⟨t,ht,e⟩:=List.mem_iff_getElem.1 hu;simp only[Array.length_toList] at ht;rw[aD] at ht;rcases Nat.lt_or_ge t (l.length*E.k) with hlt2|hge
   ·have hi:t/E.k<l.length:=(Nat.div_lt_iff_lt_mul E.hk).2 hlt2;have h3:=aE (t/E.k) hi (t%E.k) (Nat.mod_lt _ E.hk);rw[show t/E.k*E.k+t%E.k=t by have:=Nat.div_add_mod t E.k;rw[Nat.mul_comm] at this;omega] at h3
    have h4:(putCells id 0 (flatK (fun t:Cel E w q=>t.1.1) E.k d') cur)[t]? = some u:=by
     rw[<- Array.getElem?_toList,Zk4 (by simpa [aD] using ht),e]
    rw[h4] at h3;exact(E.one (d'[t/E.k]'(by omega)).2.1 u (List.mem_of_getElem? h3.symm)).1
   ·have h4:(putCells id 0 (flatK (fun t:Cel E w q=>t.1.1) E.k d') cur)[t]? = some u:=by
     rw[<- Array.getElem?_toList,Zk4 (by simpa [aD] using ht),e]
    simp only[putCells,Array.getElem?_mapIdx,size_flatK,hs,Nat.zero_add] at h4;rw[Array.getElem?_eq_getElem (by omega)] at h4;simp only[Option.map_some,Nat.zero_le,true_and,show ¬ t<l.length*E.k by omega,if_false,Option.some.injEq] at h4;rw[<- h4];exact aL.mem q4 _ (by simp)
end
open Go.RowKit Go.Sort Go.Shelf
theorem QcX {β γ : Type} [Inhabited β] (key : β -> Int) (f : β -> γ) (d d':Array β) (hp:PermIn 0 d.size d d') (hs:SortedIn (ltOf fun x y=>QaW (key x) (key y)) 0 d.size d') :
  d'.size=d.size/\(d'.toList.map f).Perm (d.toList.map f)/\(d'.toList.map key).Pairwise (· <= ·):=by
 obtain⟨h1,h2,h3⟩:=hp;refine⟨h1,?_,?_⟩
 ·rw[<- h1] at h3;have e1:d'.extract 0 d'.size=d':=by simp
  have e2:d.extract 0 d'.size=d:=by rw[h1];simp
  rw[e1,e2] at h3;exact h3.map f
 ·refine List.pairwise_map.2 (List.pairwise_iff_getElem.2 (fun i j hi hj hij=>?_));have:=hs i j (Nat.zero_le _) hij (by rw[<- h1];simpa using hj);unfold ltOf at this;have e1:d'[i]! = d'.toList[i]:=by rw[getElem!_pos d' i (by simpa using hi)];simp
  have e2:d'[j]! = d'.toList[j]:=by rw[getElem!_pos d' j (by simpa using hj)];simp
  rw[e1,e2] at this;have:=of_decide_eq_false this;dsimp only at this;unfold QaW at this;split at this
  ·omega
  ·omega
theorem Qg9 {β : Type} (key : β -> Int):SWO (ltOf fun x y=>QaW (key x) (key y)):=by
 have hl:∀ x y,ltOf (fun x y=>QaW (key x) (key y)) x y=decide (key x<key y):=by
  intro x y;unfold ltOf;rw[decide_eq_decide];dsimp only;unfold QaW;split
  ·constructor <;> intro <;> omega
  ·split <;> constructor <;> intro <;> omega
 refine⟨fun x=>?_,fun x y z h1 h2=>?_,fun x y z h1 h2=>?_⟩
 ·rw[hl];simp
 ·rw[hl] at *;simp at *;omega
 ·rw[hl] at *;simp at *;omega
def qP (p:Int×Int):Prop:=sz p.1<=2199023255552
def qI (p:Int):Prop:=sz p<=2199023255552
theorem QgB (g cap base:Nat) (l:List (Int×Int)) (w:World) (h:So eP w base (.slice (some ⟨g,0,none⟩) l.length cap) l) (hq:∀ x∈l,qP x) (hl:0<l.length) (hsz:l.length<4611686018427387904) :
  Calls Tryz.prog 216 #[.slice (some ⟨g,0,none⟩) l.length cap,.func (.func 217) #[] #[]] w fun e w'=>
   e=.returned (.tuple #[])/\∃ l',l'.Perm l/\(l'.map Prod.fst).Pairwise (· <= ·)/\So eP w' base (.slice (some ⟨g,0,none⟩) l.length cap) l'/\ButS (fun k=>k=g) w w':=by
 have aF:=h.lt g rfl;have hS:=h.nw g rfl;obtain⟨aI,aH,-⟩:=h.sc 0 hl;letI:Inhabited (Cel eP w qP):=⟨⟨(aI,l[0]),aH,hq _ (List.getElem_mem _)⟩⟩
 obtain⟨d,hd,aG,hH,aA⟩:=Qdx (q:=qP) h hq;have eg:∀ args w,(callFunc 217 args).run Tryz.prog w=.ok (.enter 217 args) w:=enters_of Tryz.func217 (by kernel_rfl) rfl
 have aC:CmpLays Tryz.prog 217 #[] (fun t:Cel eP w qP=>t.1.1) 3 (fun x y=>QaW x.1.2.1 y.1.2.1) g 0 d.size w:=by
  intro m os dk _ x y;obtain⟨s1,a1,n1,c1,ex,hx⟩:QaQ w x.1.1 x.1.2:=x.2.1;obtain⟨s2,a2,n2,c2,ey,hy⟩:QaQ w y.1.1 y.1.2:=y.2.1;have qx:qP x.1.2:=x.2.2;have qy:qP y.1.2:=y.2.2;have aD:=Qb3 (fun t:Cel eP w qP=>t.1.1) 3 g m dk os;have aE:∀ g',g'=g->NoW w g':=fun g' hg'=>by rw[hg'];exact hS
  dsimp only;rw[ex,ey];exact Qf8 s1 s2 a1 a2 n1 n2 c1 c2 _ _ _ _ _ (hx.fr aD aE) (hy.fr aD aE) qx qy
 have aB:=AnyQ.slices_SortFunc Tryz.srtP 3 Tryz.isAgg147 Tryz.sizeOf147 (fun t:Cel eP w qP=>t.1.1) (fun t=>eP.len t.2.1) (fun t v hv=>(eP.one t.2.1 v hv).2) (fun x y=>QaW x.1.2.1 y.1.2.1) (Qg9 fun x:Cel eP w qP=>x.1.2.1) 217 #[] g 0 cap d w eg aC hH aF.2 (by omega);rw[hd] at aB;refine Calls.mono aB ?_;rintro e w' ⟨rfl,d',n,os,hp,hs,rfl⟩;rw[<- hd] at hp hs;obtain⟨h1,h2,h3⟩:=QcX (fun x:Cel eP w qP=>x.1.2.1) (fun x:Cel eP w qP=>x.1.2) d d' hp hs;refine⟨rfl,_,?_,?_,aA d' n os (h1.trans hd),Qb3 _ 3 g n d' os⟩
 ·rw[aG] at h2;exact h2
 ·rw[List.map_map];exact h3
theorem Qel {v:Value} {base:Nat} {l:List (Int×Int)} {w:World} (h:So eP w base v l) (hq:∀ x∈l,qP x) (hsz:l.length<4611686018427387904) :
  Calls Tryz.prog 216 #[v,.func (.func 217) #[] #[]] w fun e w'=>
   e=.returned (.tuple #[])/\∃ l',l'.Perm l/\(l'.map Prod.fst).Pairwise (· <= ·)/\So eP w' base v l'/\ButS (fun k=>v.ownBlock=some k) w w':=by
 have aA:∀ (p:Option Addr) (aB:Nat),v=.slice p 0 aB->l=[]->Calls Tryz.prog 216 #[v,.func (.func 217) #[] #[]] w fun e w'=>
   e=.returned (.tuple #[])/\∃ l',l'.Perm l/\(l'.map Prod.fst).Pairwise (· <= ·)/\So eP w' base v l'/\ButS (fun k=>v.ownBlock=some k) w w':=by
  rintro p aB rfl rfl;refine Calls.mono (AnyF.slices_SortFunc_none Tryz.srtP p aB (.func (.func 217) #[] #[]) w) ?_;rintro e w' ⟨rfl,rfl⟩;exact⟨rfl,[],List.Perm.refl _,List.Pairwise.nil,h,ButS.refl _ _⟩
 rcases h.form with ⟨hv,hn⟩|⟨g,aB,hv,hg1,hg2,hc⟩
 ·exact aA none 0 hv hn
 ·rcases Nat.eq_zero_or_pos l.length with h0|h0
  ·exact aA _ aB (by rw[hv,h0]) (List.eq_nil_of_length_eq_zero h0)
  ·subst hv;refine Calls.mono (QgB g aB base l w h hq h0 hsz) ?_;rintro e w' ⟨rfl,l',h1,h2,h3,h4⟩;exact⟨rfl,l',h1,h2,by rw[<- h1.length_eq] at h3 |-;exact h3,h4.mono (fun k _ hk=>by rw[hk];rfl)⟩
open Go.RowKit
attribute [local go_sem ↓] Go.wp_at_zero Go.wp_at_succ
theorem Qev {w:World} (vn vp:Value) (N b:Int) (P:List (Int×Int)) (hn:It w vn N) (hp:Sr eP w vp P) (hl:P.length<=1099511627776) :
  Calls Tryz.prog 172 #[vn,.int .i64 b,vp] w fun e w'=>
   ∃ B vP,e=.returned (.pointer (some ⟨B,0,none⟩))/\Bu w' B vP (.slice none 0 0) N P [] b/\Below w.heap.size w w'/\∀ k,YB B vP (.slice none 0 0) k->w.heap.size<=k:=by
 obtain⟨W,s1,a1,n1,c1,rfl,hW,bw,vX,hs,p0,p1,aD⟩:=Qh6 w hn;replace hp:=hp.up bw;clear hn;go_enter Tryz.func172,Tryz.ntmps172
 go_upto_region 1 with fail;rw[<- hW];clear hW;refine QaT (by kernel_rfl) [] (S:=fun w'=>w'.cell? ⟨w.heap.size,0,none⟩=some (.bool s1)/\w'.cell? ⟨w.heap.size,1,none⟩=some (.slice a1 n1 c1)) ⟨p0,p1⟩ (fun aA=>?_);refine kL 0 rfl ?_;refine pL 1 rfl ?_;refine pL 2 rfl ?_;(refine oL 3 rfl fun K hK=>tL ?_;go_simp);refine(QgF vp P _ hp.drew hl).mono ?_;rintro e w1 ⟨v,rfl,hv,aB⟩;obtain⟨aP,cP,rfl,aF⟩:=hv.slice;have aC:=aD.drew.up aB;have hz:=aB.size;replace p0:=QaD aB (Qa7 p0);replace p1:=QaD aB (Qa7 p1);(go_wp2_with fail;clear aA;refine nxL hK ⟨p0,p1⟩ fun aA=>tL ?_;clear hK);refine pL 4 rfl ?_;refine pL 5 rfl ?_;(refine oL 6 rfl fun K hK=>tL ?_;go_simp);(go_wp2_with fail;clear aA;refine nxL hK ⟨QbE p0 (.cells #[.bool s1,.slice a1 n1 c1,.slice aP P.length cP,.slice none 0 0,.int .i64 b] 237),QbE p1 (.cells #[.bool s1,.slice a1 n1 c1,.slice aP P.length cP,.slice none 0 0,.int .i64 b] 237)⟩ fun aA=>tL ?_;clear hK);(refine oL 7 rfl fun K hK=>tL ?_;go_simp);(go_wp2_with fail;clear aA;refine nxL hK ⟨QbE p0 (.cells #[.bool s1,.slice a1 n1 c1,.slice aP P.length cP,.slice none 0 0,.int .i64 b] 237),QbE p1 (.cells #[.bool s1,.slice a1 n1 c1,.slice aP P.length cP,.slice none 0 0,.int .i64 b] 237)⟩ fun aA=>tL ?_;clear hK);refine dT ?_;go_wp2_with fail;go_ret
 have aE:w.heap.size+1<=w1.heap.size:=by have:=aB.size;simp at this;omega
 refine⟨w1.heap.size,.slice aP P.length cP,rfl,⟨⟨s1,a1,n1,c1,Zk1 w1 _,aC.alloc _⟩,(hv.base (Nat.zero_le _)).alloc _,So.nil eP _ 0,fun g _ e=>(by cases e),fun e=>?_,fun e=>(by cases e)⟩,Bl.alloc (Bl.up (Bl.drew bw) aB) _,?_⟩
 ·have:=(hv.lt _ e).2;omega
 ·rintro k (rfl|hk|hk)
  ·omega
  ·have:=(hv.lt k hk).1;simp at this;omega
  ·cases hk
structure Fz where
 N:Int
 P:List (Int×Int)
 R:List (Int×Int)
 B:Int
def Fx (w:World) (v:Value) (f:Fz):Prop:=
 ∃ s a n c vP vR,v=.agg #[.bool s,.slice a n c,vP,vR,.int .i64 f.B]/\It w (Qlv s a n c) f.N/\Sr eP w vP f.P/\Sr eP w vR f.R
theorem Fx.up {w w':World} {v:Value} {f:Fz} (h:Fx w v f) (hb:Below w.heap.size w w'):Fx w' v f:=by
 obtain⟨s,a,n,c,vP,vR,h1,h2,h3,h4⟩:=h;exact⟨s,a,n,c,vP,vR,h1,h2.up hb,h3.up hb,h4.up hb⟩
section
variable {w w1:World} {B:Nat} {vP vR:Value} {N:Int} {P R:List (Int×Int)} {b:Int}
theorem BuT.newP {T:TypeId} {P':List (Int×Int)} (h:BuT T w B vP vR N P R b) (hb:ButS (fun k=>vP.ownBlock=some k) w w1) (hP:So eP w1 0 vP P'):BuT T w1 B vP vR N P' R b:=by
 have hS:∀ g,vP.ownBlock=some g->NoW w g:=h.hP.nw;obtain⟨s,a,n,c,h1,h2⟩:=h.hb;exact⟨⟨s,a,n,c,(hb.block B h.lt h.d2).trans h1,h2.fr hb hS⟩,hP,h.hR.fr hb hS (fun g hg=>fun e=>h.d1 g e hg),h.d1,h.d2,h.d3⟩
theorem BuT.newR {T:TypeId} {R':List (Int×Int)} (h:BuT T w B vP vR N P R b) (hb:ButS (fun k=>vR.ownBlock=some k) w w1) (hR:So eP w1 0 vR R'):BuT T w1 B vP vR N P R' b:=by
 have hS:∀ g,vR.ownBlock=some g->NoW w g:=h.hR.nw;obtain⟨s,a,n,c,h1,h2⟩:=h.hb;exact⟨⟨s,a,n,c,(hb.block B h.lt h.d3).trans h1,h2.fr hb hS⟩,h.hP.fr hb hS (fun g hg=>h.d1 g hg),hR,h.d1,h.d2,h.d3⟩
end
theorem QeL (w:World) (B:Nat) (x0 x1 x2 x3 x4:Value) (h0:w.cell? ⟨B,0,none⟩=some x0) (h1:w.cell? ⟨B,1,none⟩=some x1) (h2:w.cell? ⟨B,2,none⟩=some x2) (h3:w.cell? ⟨B,3,none⟩=some x3) (h4:w.cell? ⟨B,4,none⟩=some x4) :
  (loadVar 191 ⟨B,0,none⟩).run Tryz.prog w=.ok (.agg #[x0,x1,x2,x3,x4]) w:=by
 simp[go_sem,h0,h1,h2,h3,h4]
theorem QfG {fn:Func} {R:Ending->World->Prop} {t:Tmp} {a:Act} {w:World} {B T:Nat} {fr:Nat×Nat} {x0 x1 x2 x3 x4:Value} (hr:fn.results = #[.cell t 191]) (ht:a.tmps.getD t undef=.pointer (some ⟨B,0,none⟩)) (hd:a.defers=[])
  (h:w.heap[B]? = some (.cells #[x0,x1,x2,x3,x4] T fr)) (hR:R (.returned (.agg #[x0,x1,x2,x3,x4])) w):bodyPost Tryz.prog fn R .ret a w:=by
 refine bodyPost_ret ?_ hd hR;have hl:=QeL w B x0 x1 x2 x3 x4 (by simp[World.cell?,h]) (by simp[World.cell?,h]) (by simp[World.cell?,h]) (by simp[World.cell?,h]) (by simp[World.cell?,h]);have aA:a.tmps[t]?.getD undef=.pointer (some ⟨B,0,none⟩):=by simpa using ht
 have hA:(asAddr (.pointer (some ⟨B,0,none⟩))).run Tryz.prog w=.ok ⟨B,0,none⟩ w:=rfl;simp[results,hr,aA,hl,hA]
def SrtZ (l l':List (Int×Int)):Prop:=l'.Perm l/\(l'.map Prod.fst).Pairwise (· <= ·)
theorem QfD {w:World} {B:Nat} {vP vR:Value} {N:Int} {P R:List (Int×Int)} {b:Int} (h:Bu w B vP vR N P R b) (hqP:∀ x∈P,qP x) (hqR:∀ x∈R,qP x) (hl:P.length<4611686018427387904) (hr:R.length<4611686018427387904) :
  Calls Tryz.prog 179 #[.pointer (some ⟨B,0,none⟩)] w fun e w'=>
   ∃ v P' R',e=.returned v/\Fx w' v ⟨N,P',R',b⟩/\SrtZ P P'/\SrtZ R R'/\ButS (YB B vP vR) w w':=by
 go_enter Tryz.func179,Tryz.ntmps179
 have aW:w.heap.size<w.heap.size+1:=Nat.lt_succ_self _;have aZ:=h.lt;have hB:=h.alloc (.cells #[.bool false,.slice none 0 0,.slice none 0 0,.slice none 0 0,.int .i64 0] 191);have hD:=Zk1 w (.cells #[.bool false,.slice none 0 0,.slice none 0 0,.slice none 0 0,.int .i64 0] 191);have hW:=Qc w (.cells #[.bool false,.slice none 0 0,.slice none 0 0,.slice none 0 0,.int .i64 0] 191);obtain⟨s1,a1,n1,c1,b0,b1,b2,b3,b4,f2,f3,hN⟩:=hB.cells;clear b0 b1 b3 b4 f2 f3 hN;have nP:=Qh (fun g hg=>(h.hP.lt g hg).2:∀ g,vP.ownBlock=some g->g<w.heap.size);have nR:=Qh (fun g hg=>(h.hR.lt g hg).2:∀ g,vR.ownBlock=some g->g<w.heap.size);have HB:=Qh hB;have HD:=Qh hD;have HW:=Qh hW;have H:=Qh h;clear hB hD hW h;go_wp2_with fail;generalize w.alloc (.cells #[.bool false,.slice none 0 0,.slice none 0 0,.slice none 0 0,.int .i64 0] 191)=W at *;clear b2;have hB:=HB.out;have hD:=HD.out;clear HB HD;refine(Qel hB.hP hqP hl).mono ?_;rintro e w1 ⟨rfl,P',aY,aO,aS,aB⟩;have aE:=hB.newP aB aS;have aD:w.heap.size<W.heap.size:=(Ql hD).1;have aF:=(aB.block w.heap.size aD (fun e=>by have:=nP.out _ e;omega)).trans hD;obtain⟨s2,a2,n2,c2,b0,b1,b2,b3,b4,f2,f3,hN⟩:=aE.cells;clear b0 b1 b2 b4 f2 f3 hN;have aV:=Qh aE;have aU:=Qh aF;have aH:=Qh aB;have HP:=Qh aO;clear hB hD aE aF aB aS aO;go_wp2_with fail;have aE:=aV.out;have aF:=aU.out;have aB:=aH.out;clear aV aU aH;refine(Qel aE.hR hqR hr).mono ?_;rintro e w2 ⟨rfl,R',aX,aM,aQ,aG⟩;have aC:=aE.newR aG aQ;have aL:=(aG.block w.heap.size (Nat.lt_of_lt_of_le aD aB.size) (fun e=>by have:=nR.out _ e;omega)).trans aF;clear b3;obtain⟨s2,a2,n2,c2,b0,b1,b2,b3,b4,f2,f3,hN⟩:=aC.cells;clear f2 f3;obtain⟨d0,d1,d2,d3,d4,z0,z1,z2,z3,z4⟩:=QgS aL;obtain⟨aP,mP,cP,rfl⟩:=Q5 aC.hP;obtain⟨aR,mR,cR,rfl⟩:=Q5 aC.hR;have a3:=Qh aC;have aT:=Qh aL;have aH:=Qh aB;have a0:=Qh aG;have HN:=Qh hN;have HR:=Qh aM;clear aE aF aC aL aB aG hN aQ aM aD aZ aW hqP hqR hl hr;go_wp2_with fail
 have aA:ButS (fun k=>k=w.heap.size) w2 (((((w2.setCell ⟨w.heap.size,0,none⟩ (.bool s2)).setCell ⟨w.heap.size,1,none⟩ (.slice a2 n2 c2)).setCell ⟨w.heap.size,2,none⟩ (.slice aP mP cP)).setCell ⟨w.heap.size,3,none⟩ (.slice aR mR cR)).setCell ⟨w.heap.size,4,none⟩ (.int .i64 b)):=
  ((((ButS.set w2 _ 0 _).trans (ButS.set _ _ 1 _)).trans (ButS.set _ _ 2 _)).trans (ButS.set _ _ 3 _)).trans (ButS.set _ _ 4 _)
 have aI:∀ g,g=w.heap.size->NoW w2 g:=by
  rintro g rfl o x hx;simp only[World.cell?,aT.out] at hx;rcases o with _|_|_|_|_|o <;> simp at hx
 have aC:=a3.out;refine QfG (B:=w.heap.size) (T:=191) (fr:=(0,0)) (x0:=.bool s2) (x1:=.slice a2 n2 c2) (x2:=.slice aP mP cP) (x3:=.slice aR mR cR) (x4:=.int .i64 b) rfl rfl rfl ?_ ?_
 ·simp[World.setCell,Array.getElem?_modify,aT.out]
 ·have aK:∀ g,(Value.slice aP mP cP).ownBlock=some g->¬ g=w.heap.size:=fun g hg e=>by have:=nP.out g hg;omega
  have aJ:∀ g,(Value.slice aR mR cR).ownBlock=some g->¬ g=w.heap.size:=fun g hg e=>by have:=nR.out g hg;omega
  refine⟨_,P',R',rfl,⟨s2,a2,n2,c2,_,_,rfl,HN.out.fr aA aI,aC.hP.sr.fr aA aI (fun _=>aK),aC.hR.sr.fr aA aI (fun _=>aJ)⟩,⟨aY,HP.out⟩,⟨aX,HR.out⟩,?_⟩;have hW:=HW.out;refine(((ButS.of hW _).step aH.out (fun i hi=>.inl (.inr (.inl hi)))).step a0.out (fun i hi=>.inl (.inr (.inr hi)))).step aA (fun i hi=>.inr (by omega))
