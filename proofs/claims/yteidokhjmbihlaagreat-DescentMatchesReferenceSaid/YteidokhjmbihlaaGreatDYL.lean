/-
  What comes into a law of Descent.
-/
import Derived.Deep.Slices
import Derived.OpenShut
import Derived.Test.YteidokhjmbihlaaGreatFY
set_option linter.all false
set_option maxRecDepth 100000
namespace Go.Proofs.YteidokhjmbihlaaGreat
open Go.ChangeShapes Go.WideShapes Go.ChangeAt Go.RowKit Go.Deep
theorem QlH {z:Int} (h:(Lit.int .i8 z).wf=true) : -128<=z/\z<=127:=by
 simpa [Lit.wf,IntKind.min,IntKind.max,IntKind.signed,IntKind.bits] using h
theorem QkJ {z:Int} (h:(Lit.int .i16 z).wf=true) : -32768<=z/\z<=32767:=by
 simpa [Lit.wf,IntKind.min,IntKind.max,IntKind.signed,IntKind.bits] using h
theorem Qjo {z:Int} (h:(Lit.int .u8 z).wf=true):0<=z/\z<=255:=by
 simpa [Lit.wf,IntKind.min,IntKind.max,IntKind.signed,IntKind.bits] using h
theorem QiX {z:Int} (h:(Lit.int .i64 z).wf=true) : -9223372036854775808<=z/\z<=9223372036854775807:=by
 simpa [Lit.wf,IntKind.min,IntKind.max,IntKind.signed,IntKind.bits] using h
theorem Qgl:Tryz.prog.cellsOf 22=1:=by kernel_rfl
theorem Qe7:Tryz.prog.cellsOf 23=1:=by kernel_rfl
theorem QfA:Tryz.prog.cellsOf 5=1:=by kernel_rfl
theorem QkU {α : Type} {cs:Array α} (h:cs.size=3):∃ c0 c1 c2,cs = #[c0,c1,c2]:=by
 obtain⟨l⟩:=cs;match l,h with
 | [c0,c1,c2],_=>exact⟨c0,c1,c2,rfl⟩
variable {H:Type} {enc:TypeId×Value->H} {w:World}
theorem QgI {v:Value} {d:DataW H} {p:List MemPlace} {r:Reach} {b0:Nat} (hv:Value.okWide Tryz.prog w r b0 25 v) (h:DataW.Trod enc Tryz.prog w 0 (fun _=>true) true 25 v d p) :
  ∃ x y m:Int,v=.agg #[.int .i8 x,.int .i16 y,.int .u8 m]/\(-128<=x/\x<=127)/\(-32768<=y/\y<=32767)/\(0<=m/\m<=255):=by
 obtain⟨cs,rfl,hsz⟩:=okWide_struct Tryz.underlying25 hv;obtain⟨c0,c1,c2,rfl⟩:=QkU (hsz.trans (by kernel_rfl));obtain⟨fuel,hf⟩:=h;obtain⟨y0,y1,y2,n,-,-,h0,h1,h2⟩:=trod_struct3 Tryz.underlying25 hf;replace h0:DataW.trod enc Tryz.prog w 0 (fun _=>true) true n 22 (List.take (Tryz.prog.cellsOf 22) [c0,c1,c2])=some y0:=h0;replace h1:DataW.trod enc Tryz.prog w 0 (fun _=>true) true n 23 (List.take (Tryz.prog.cellsOf 23) [c1,c2])=some y1:=h1;replace h2:DataW.trod enc Tryz.prog w 0 (fun _=>true) true n 5 (List.take (Tryz.prog.cellsOf 5) [c2])=some y2:=h2;rw[Qgl] at h0;rw[Qe7] at h1;rw[QfA] at h2;obtain⟨z0,e0,-,w0⟩:=DataW.trod_int Tryz.underlying22 h0;obtain⟨z1,e1,-,w1⟩:=DataW.trod_int Tryz.underlying23 h1;obtain⟨z2,e2,-,w2⟩:=DataW.trod_int Tryz.underlying5 h2;injection e0 with e0;injection e1 with e1;injection e2 with e2;subst e0 e1 e2;exact⟨z0,z1,z2,rfl,QlH w0,QkJ w1,Qjo w2⟩
