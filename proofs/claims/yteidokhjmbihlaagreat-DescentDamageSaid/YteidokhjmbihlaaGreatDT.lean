/-
  The curve of a description is not refused.
-/
import Derived.Test.YteidokhjmbihlaaGreatDQ
import Derived.Test.YteidokhjmbihlaaGreatDR
set_option linter.all false
set_option maxRecDepth 100000
set_option maxHeartbeats 2000000
namespace Go.Proofs.YteidokhjmbihlaaGreat
open Go.RowKit
attribute [local go_sem ↓] Go.wp_at_zero Go.wp_at_succ
def Qkf (a b:Int):Prop:=-20<=a/\a<=20 /\ -80<=b/\b<=101/\b≠0/\a*a≠4*b
theorem QkI (w:World) (B T:Nat) (fr:Nat×Nat) (x0 x1 x2 x3:Value) (h:w.heap[B]? = some (.cells #[x0,x1,x2,x3] T fr)):(loadVar 35 ⟨B,0,none⟩).run Tryz.prog w=.ok (.agg #[x0,x1,x2,x3]) w:=by
 simp[go_sem,World.cell?,h]
theorem QhB {x k:Int} (hk:0<k) : -k<x.tmod k/\x.tmod k<k:=by
 have h1:(x.tmod k).natAbs=x.natAbs%k.natAbs:=Int.natAbs_tmod x k;have h2:x.natAbs%k.natAbs<k.natAbs:=Nat.mod_lt _ (by omega);omega
theorem Qdw (x y m:Int) (w:World) (h1 : -128<=x) (h2:x<=127) (h3 : -32768<=y) (h4:y<=32767) :
  Calls Tryz.prog 13 #[.agg #[.int .i8 x,.int .i16 y,.int .u8 m]] w fun e' w'=>∃ v a b,e'=.returned v/\Qx w' v a b/\Qkf a b/\Below w.heap.size w w':=by
 obtain⟨a,ha⟩:∃ a,x.tmod 21=a:=⟨_,rfl⟩;obtain⟨b,hb⟩:∃ b,y.tmod 81=b:=⟨_,rfl⟩;have aE:=QhB (x:=x) (k:=21) (by decide);have aD:=QhB (x:=y) (k:=81) (by decide);rw[ha] at aE;rw[hb] at aD;obtain⟨aM,aL⟩:=aE;obtain⟨hb2,aK⟩:=aD;have e1:IntKind.i8.wrap a=a:=by simp[IntKind.wrap,IntKind.bits,IntKind.signed];omega
 have e2:IntKind.i16.wrap b=b:=by simp[IntKind.wrap,IntKind.bits,IntKind.signed];omega
 have e3:IntKind.i64.wrap a=a:=by rw[IntKind.wrap_i64];omega
 have e4:IntKind.i64.wrap b=b:=by rw[IntKind.wrap_i64];omega
 have b0:=Qa w (.cells #[.int .i8 x,.int .i16 y,.int .u8 m] 25);have b1:=Qa (w.alloc (.cells #[.int .i8 x,.int .i16 y,.int .u8 m] 25)) (Qmb 35 false none 0 0 false none 0 0);have d0:=Zk1 w (.cells #[.int .i8 x,.int .i16 y,.int .u8 m] 25);have d1:=Zk1 (w.alloc (.cells #[.int .i8 x,.int .i16 y,.int .u8 m] 25)) (Qmb 35 false none 0 0 false none 0 0);rw[show (w.alloc (.cells #[.int .i8 x,.int .i16 y,.int .u8 m] 25)).heap.size=w.heap.size+1 by simp only[Zk2]] at d1;replace d0:=(Kp.blk _ _).up d0 b1;have HB:=Qh (Bl.up b0 b1);have HZ:=Qh d1;go_enter Tryz.func13,Tryz.ntmps13
 go_upto_region 1 with fail;generalize (w.alloc (.cells #[.int .i8 x,.int .i16 y,.int .u8 m] 25)).alloc (Qmb 35 false none 0 0 false none 0 0)=W at *;have aF:W.cell? ⟨w.heap.size,0,none⟩=some (.int .i8 x)/\W.cell? ⟨w.heap.size,1,none⟩=some (.int .i16 y):=by constructor <;> simp[World.cell?,d0]
 refine Qc (by kernel_rfl) [] (S:=fun w'=>w'.cell? ⟨w.heap.size,0,none⟩=some (.int .i8 x)/\w'.cell? ⟨w.heap.size,1,none⟩=some (.int .i16 y)) aF (fun aA=>?_);clear aF d0 d1 b0 b1;replace HB:=Qh (Bl.drew HB.out);replace HZ:=Qh ((Kp.blk _ _).dr HZ.out);generalize W.drew=w1 at *;(refine kL 0 rfl ?_;refine kL 1 rfl ?_;refine kL 2 rfl ?_;refine kL 3 rfl ?_;refine kL 4 rfl ?_;refine kL 5 rfl ?_;refine kL 6 rfl ?_;refine kL 7 rfl ?_;refine kL 8 rfl ?_;refine kL 9 rfl ?_)
 refine dT ?_;clear aA ha hb e1 e2 e3 e4;go_wp2_with fail
 go_loopw [4] (fun s4 wr=>∃ c:Int,s4=.int .i64 c /\ -80<=c/\c<=101/\wr=w1)
  (fun s4 _=>(200-intOf s4).toNat)
 case atStart=>exact⟨b,rfl,by omega,by omega,rfl⟩
 case round=>
  obtain⟨c,rfl,aH,aG,rfl⟩:=hrel
  have q1:a*a<=400:=by
   have h5:a.natAbs*a.natAbs<=20*20:=Nat.mul_le_mul (by omega) (by omega);rw[<- Int.natAbs_mul] at h5;omega
  have q0:0<=a*a:=by
   exact QaQ a
  obtain⟨q,hq⟩:∃ q,a*a=q:=⟨_,rfl⟩;rw[hq] at q0 q1;have e1:IntKind.i64.wrap q=q:=by rw[IntKind.wrap_i64];omega
  have e2:IntKind.i64.wrap (4*c)=4*c:=by rw[IntKind.wrap_i64];omega
  have e3:IntKind.i64.wrap (c+1)=c+1:=by rw[IntKind.wrap_i64];omega
  by_cases h0:c=0
  ·subst h0;go_wp2_with fail;refine⟨⟨1,by go_num,by omega,by omega,by first|rfl|trivial⟩,by simp[intOf]⟩
  ·have c0:(c == 0)=false:=by rw[beq_eq_false_iff_ne];exact h0
   by_cases h4:q=4*c
   ·have c1:(q == 4*c)=true:=by rw[beq_iff_eq];exact h4
    have aJ:c<=100:=by omega
    clear h0 h4;go_wp2_with fail;refine⟨⟨c+1,by go_num,by omega,by omega,by first|rfl|trivial⟩,by simp[intOf];omega⟩
   ·have c1:(q == 4*c)=false:=by rw[beq_eq_false_iff_ne];exact h4
    have aI:=Qh (show Qkf a c from ⟨by omega,by omega,aH,aG,h0,by rw[hq];exact h4⟩);clear h0 h4;go_wp2_with fail;refine mn (Qm a wr (by omega) (by omega)) fun v w2 hv hb2=>?_;obtain⟨s1,a1,n1,k1,rfl⟩:=hv.shape;have H1:=Qh hv;replace HB:=hu hb2 HB;replace HZ:=hu hb2 HZ;clear hv hb2;go_wp2_with fail;refine mn (Qm c w2 (by omega) (by omega)) fun v w3 hv hb2=>?_;obtain⟨s2,a2,n2,k2,rfl⟩:=hv.shape;replace H1:=hu hb2 H1;have H2:=Qh hv;replace HB:=hu hb2 HB;replace HZ:=hu hb2 HZ;clear hv hb2;obtain⟨z0,z1,z2,z3⟩:=Qq HZ.out;obtain⟨y0,y1,y2,y3⟩:=JH HZ.out;go_wp2_with fail;have hh:=Qak HZ.out (.bool s1) (.slice a1 n1 k1) (.bool s2) (.slice a2 n2 k2);have aB:=QfG w3 (w.heap.size+1) (.bool s1) (.slice a1 n1 k1) (.bool s2) (.slice a2 n2 k2);have aC:=nw4 HZ.out;exact JY (B:=w.heap.size+1) rfl rfl rfl (QkI _ _ _ _ _ _ _ _ hh) ⟨_,a,c,rfl,⟨_,_,_,_,_,_,_,_,rfl,H1.out.fr aB aC,H2.out.fr aB aC⟩,aI.out,ButS.below HB.out aB HB.out.size (fun g e=>by omega)⟩
theorem QjO {a b:Int} (h:Qkf a b):JG a b=0/\sz a<=2/\sz b<=2:=by
 obtain⟨h1,h2,h3,h4,h5,h6⟩:=h
 have q1:a*a<=400:=by
  have h7:a.natAbs*a.natAbs<=20*20:=Nat.mul_le_mul (by omega) (by omega);rw[<- Int.natAbs_mul] at h7;omega
 have q0:=QaQ a;refine⟨?_,QbF (by omega),QbF (by omega)⟩;unfold JG;rw[if_neg (by omega),if_neg (by omega)]
