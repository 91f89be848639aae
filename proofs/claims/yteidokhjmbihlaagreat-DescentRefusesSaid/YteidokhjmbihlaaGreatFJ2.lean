/-
  slices.SortFunc at integers, by integer.Cmp.
-/
import Derived.Shelf.SlSortCmp.NoneTotal
import Derived.Test.YteidokhjmbihlaaGreatFJ1
set_option linter.all false
set_option maxHeartbeats 1000000
namespace Go.Proofs.YteidokhjmbihlaaGreat
open Go.RowKit Go.Sort Go.Shelf
theorem Qgc (g cap base:Nat) (l:List Int) (w:World) (h:So eI w base (.slice (some ⟨g,0,none⟩) l.length cap) l) (hq:∀ x∈l,qI x) (hl:0<l.length) (hsz:l.length<4611686018427387904) :
  Calls Tryz.prog 123 #[.slice (some ⟨g,0,none⟩) l.length cap,.func (.func 110) #[] #[]] w fun e w'=>
   e=.returned (.tuple #[])/\∃ l',l'.Perm l/\l'.Pairwise (· <= ·)/\So eI w' base (.slice (some ⟨g,0,none⟩) l.length cap) l'/\ButS (fun k=>k=g) w w':=by
 have aF:=h.lt g rfl;have hS:=h.nw g rfl;obtain⟨aI,aH,-⟩:=h.sc 0 hl;letI:Inhabited (Cel eI w qI):=⟨⟨(aI,l[0]),aH,hq _ (List.getElem_mem _)⟩⟩
 obtain⟨d,hd,aG,hH,aA⟩:=Qdx (q:=qI) h hq;have eg:∀ args w,(callFunc 110 args).run Tryz.prog w=.ok (.enter 110 args) w:=enters_of Tryz.func110 (by kernel_rfl) rfl
 have aC:CmpLays Tryz.prog 110 #[] (fun t:Cel eI w qI=>t.1.1) 2 (fun x y=>QaW x.1.2 y.1.2) g 0 d.size w:=by
  intro m os dk _ x y;obtain⟨s1,a1,n1,c1,ex,hx⟩:okI w x.1.1 x.1.2:=x.2.1;obtain⟨s2,a2,n2,c2,ey,hy⟩:okI w y.1.1 y.1.2:=y.2.1;have qx:qI x.1.2:=x.2.2;have qy:qI y.1.2:=y.2.2;have aD:=Qb3 (fun t:Cel eI w qI=>t.1.1) 2 g m dk os;have aE:∀ g',g'=g->NoW w g':=fun g' hg'=>by rw[hg'];exact hS
  dsimp only;rw[ex,ey];exact Qjq _ _ _ _ _ (hx.fr aD aE) (hy.fr aD aE) qx qy
 have aB:=AnyQ.slices_SortFunc Tryz.srtI 2 Tryz.isAgg33 Tryz.sizeOf33 (fun t:Cel eI w qI=>t.1.1) (fun t=>eI.len t.2.1) (fun t v hv=>(eI.one t.2.1 v hv).2) (fun x y=>QaW x.1.2 y.1.2) (Qg9 fun x:Cel eI w qI=>x.1.2) 110 #[] g 0 cap d w eg aC hH aF.2 (by omega);rw[hd] at aB;refine Calls.mono aB ?_;rintro e w' ⟨rfl,d',n,os,hp,hs,rfl⟩;rw[<- hd] at hp hs;obtain⟨h1,h2,h3⟩:=QcX (fun x:Cel eI w qI=>x.1.2) (fun x:Cel eI w qI=>x.1.2) d d' hp hs;refine⟨rfl,_,?_,?_,aA d' n os (h1.trans hd),Qb3 _ 2 g n d' os⟩
 ·rw[aG] at h2;exact h2
 ·exact h3
theorem Qg3 {v:Value} {base:Nat} {l:List Int} {w:World} (h:So eI w base v l) (hq:∀ x∈l,qI x) (hsz:l.length<4611686018427387904) :
  Calls Tryz.prog 123 #[v,.func (.func 110) #[] #[]] w fun e w'=>
   e=.returned (.tuple #[])/\∃ l',l'.Perm l/\l'.Pairwise (· <= ·)/\So eI w' base v l'/\ButS (fun k=>v.ownBlock=some k) w w':=by
 have aA:∀ (p:Option Addr) (aB:Nat),v=.slice p 0 aB->l=[]->Calls Tryz.prog 123 #[v,.func (.func 110) #[] #[]] w fun e w'=>
   e=.returned (.tuple #[])/\∃ l',l'.Perm l/\l'.Pairwise (· <= ·)/\So eI w' base v l'/\ButS (fun k=>v.ownBlock=some k) w w':=by
  rintro p aB rfl rfl;refine Calls.mono (AnyF.slices_SortFunc_none Tryz.srtI p aB (.func (.func 110) #[] #[]) w) ?_;rintro e w' ⟨rfl,rfl⟩;exact⟨rfl,[],List.Perm.refl _,List.Pairwise.nil,h,ButS.refl _ _⟩
 rcases h.form with ⟨hv,hn⟩|⟨g,aB,hv,hg1,hg2,hc⟩
 ·exact aA none 0 hv hn
 ·rcases Nat.eq_zero_or_pos l.length with h0|h0
  ·exact aA _ aB (by rw[hv,h0]) (List.eq_nil_of_length_eq_zero h0)
  ·subst hv;refine Calls.mono (Qgc g aB base l w h hq h0 hsz) ?_;rintro e w' ⟨rfl,l',h1,h2,h3,h4⟩;exact⟨rfl,l',h1,h2,by rw[<- h1.length_eq] at h3 |-;exact h3,h4.mono (fun k _ hk=>by rw[hk];rfl)⟩
