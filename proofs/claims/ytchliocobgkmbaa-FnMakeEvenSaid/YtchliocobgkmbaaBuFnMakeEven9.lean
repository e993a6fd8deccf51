/- Texts for the row of the law FnMakeEven, part 9: the plain machine, the program's functions on it, what they come to. No conditions. -/
import Derived.Test.YtchliocobgkmbaaAb
import Derived.Test.YtchliocobgkmbaaOr
set_option linter.unusedVariables false
set_option linter.unusedSimpArgs false
set_option maxRecDepth 100000
namespace Go.Proofs.Ytchliocobgkmbaa.Rp
open Go Go.Proofs.Ytchliocobgkmbaa.Ab
namespace laws_alive
noncomputable def body:Code:=(Go.Proofs.Try.f17).body.getD .skip
noncomputable def f (rec:Rec) (k:Nat) (H:Hp):An:=(rec impl_GridFilled.id [.sl 1 (Sl.mk false H.length 0 4),.int .i64 2] (H ++ [some (Blk.mk false [.int .i64 1,.int .i64 0,.int .i64 0,.int .i64 2])])).bind fun r1=>(r1.1.toI .i64).bind fun n2=>some (.bool (n2 == 2),r1.2)
theorem f_eq (rec:Rec) (k:Nat):∀ H,f rec k H=ex PP (orc laws_alive.id) rec k body (St.of 4 [] []) H (K0 PP Go.Proofs.Try.f17):=by
 intros H
 unfold f
 kernel_rfl
theorem call (k:Nat):∀ H,callF PP orc (k + 1) laws_alive.id [] H=f (callF PP orc k) k H:=by
 intros H
 rw [callF_at (fn:=Go.Proofs.Try.f17) (c:=body) Go.Proofs.Try.func17 (by kernel_rfl) (Nat.le_of_ble_eq_true (by kernel_rfl)),f_eq]
 kernel_rfl
end laws_alive
namespace laws_FnMakeEven
noncomputable def body:Code:=(Go.Proofs.Try.f3).body.getD .skip
abbrev o:=orc laws_FnMakeEven.id
abbrev TL2:=Bool→Int→Int→Sl→Sl→Int→Sl→Sl→Hp→An
abbrev PhL2 (rec:Rec) (k n2:Nat) (L2:TL2):Prop:=∀ x8 x9 y3_0 y3_1 y3_2 y4_0 y4_1 y4_2 H,L2 x8 x9 y3_0 y3_1 y3_2 y4_0 y4_1 y4_2 H=iter (o.at (lbody (sub body [1,1,1,1,1,1,1,1,0,1,0]))) (ex PP o rec k (lbody (sub body [1,1,1,1,1,1,1,1,0,1,0]))) (kAt PP o rec k body [1,1,1,1,1,1,1,1,0,1,0] [] (K0 PP Go.Proofs.Try.f3)) n2 (St.of 101 [(3,.lp 3 0),(4,.lp 4 0),(8,.bool x8),(9,.int .i64 x9)] [(3,[.int .i64 y3_0,.sl 1 y3_1,.sl 3 y3_2]),(4,[.int .i64 y4_0,.sl 1 y4_1,.sl 3 y4_2])]) H
noncomputable def j4 (rec:Rec) (k:Nat) (L2:TL2) (x8:Bool) (x9:Int) (y3_0:Int) (y3_1:Sl) (y3_2:Sl) (y4_0:Int) (y4_1:Sl) (y4_2:Sl) (H:Hp):An:=bif decide (0 ≤ (x9:Int)) && decide ((x9:Int) < y4_1.len) then (ldI .i64 H y4_1.blk (y4_1.off + (x9:Int).toNat * 1)).bind fun n21=>bif decide (0 ≤ (IntKind.i64.wrap ((IntKind.i64.wrap ((y4_1.len:Int) - 1)) - x9):Int)) && decide ((IntKind.i64.wrap ((IntKind.i64.wrap ((y4_1.len:Int) - 1)) - x9):Int) < y4_1.len) then (ldI .i64 H y4_1.blk (y4_1.off + (IntKind.i64.wrap ((IntKind.i64.wrap ((y4_1.len:Int) - 1)) - x9):Int).toNat * 1)).bind fun n22=>bif !((n21 == 0) == (n22 == 0)) then some (.bool false,H) else L2 x8 (IntKind.i64.wrap (x9 + 1)) y3_0 y3_1 y3_2 y4_0 y4_1 y4_2 H else none else none
noncomputable def j5 (rec:Rec) (k:Nat) (y3_0:Int) (y3_1:Sl) (y3_2:Sl) (y4_0:Int) (y4_1:Sl) (y4_2:Sl) (H:Hp):An:=(rec impl_SolveFirst.id [.agg [.int .i64 y3_0,.sl 1 y3_1,.sl 3 y3_2]] H).bind fun r23=>bif r23.1.isTup 2 then ((r23.1.nth 0).toS 1).bind fun s24=>(r23.1.nth 1).toB.bind fun b25=>(rec impl_SolveFirst.id [.agg [.int .i64 y4_0,.sl 1 y4_1,.sl 3 y4_2]] r23.2).bind fun r26=>bif r26.1.isTup 2 then ((r26.1.nth 0).toS 1).bind fun s27=>(r26.1.nth 1).toB.bind fun b28=>(rec impl_CountSolutions.id [.agg [.int .i64 y4_0,.sl 1 y4_1,.sl 3 y4_2],.int .i64 2] r26.2).bind fun r29=>(r29.1.toI .i64).bind fun n30=>bif n30 == 1 then (rec laws_sameInts.id [.sl 1 s24,.sl 1 s27] r29.2).bind fun r31=>r31.1.toB.bind fun b32=>some (.bool b32,r31.2) else some (.bool false,r29.2) else none else none
noncomputable def j3 (rec:Rec) (k:Nat) (L2:TL2) (x8:Bool) (x9:Int) (x62:Bool) (y3_0:Int) (y3_1:Sl) (y3_2:Sl) (y4_0:Int) (y4_1:Sl) (y4_2:Sl) (H:Hp):An:=bif x62 then j4 rec k L2 x8 x9 y3_0 y3_1 y3_2 y4_0 y4_1 y4_2 H else j5 rec k y3_0 y3_1 y3_2 y4_0 y4_1 y4_2 H
noncomputable def l2 (rec:Rec) (k:Nat):Nat→Bool→Int→Int→Sl→Sl→Int→Sl→Sl→Hp→An
 | 0,_,_,_,_,_,_,_,_,_=>none
 | n + 1,x8,x9,y3_0,y3_1,y3_2,y4_0,y4_1,y4_2,H=>bif decide (x9 < (y4_1.len:Int)) then j3 rec k (l2 rec k n) x8 x9 x8 y3_0 y3_1 y3_2 y4_0 y4_1 y4_2 H else j3 rec k (l2 rec k n) x8 x9 false y3_0 y3_1 y3_2 y4_0 y4_1 y4_2 H
noncomputable def j1 (rec:Rec) (k:Nat) (x5:Bool) (y3_0:Int) (y3_1:Sl) (y3_2:Sl) (y4_0:Int) (y4_1:Sl) (y4_2:Sl) (H:Hp):An:=bif !x5 then bif y4_0 == 0 then (rec laws_alive.id [] H).bind fun r17=>r17.1.toB.bind fun b18=>some (.bool b18,r17.2) else some (.bool false,H) else (rec impl_GridFilled.id [.sl 1 y3_1,.int .i64 y3_0] H).bind fun r19=>(r19.1.toI .i64).bind fun n20=>l2 rec k k (n20 == (y3_1.len:Int)) 0 y3_0 y3_1 y3_2 y4_0 y4_1 y4_2 r19.2
noncomputable def j0 (rec:Rec) (k:Nat) (x5:Bool) (x37:Bool) (y3_0:Int) (y3_1:Sl) (y3_2:Sl) (y4_0:Int) (y4_1:Sl) (y4_2:Sl) (H:Hp):An:=bif x37 then some (.bool false,H) else j1 rec k x5 y3_0 y3_1 y3_2 y4_0 y4_1 y4_2 H
noncomputable def f (rec:Rec) (k:Nat) (a0:Sl) (H:Hp):An:=bif decide ((a0.len:Int) > 1048576) then some (.bool true,H) else (rec spec_DrawMakeEven.id [.sl 1 a0] H).bind fun r1=>bif r1.1.isAgg 3 then ((r1.1.cel 0).toI .i64).bind fun n2=>((r1.1.cel 1).toS 1).bind fun s3=>((r1.1.cel 2).toS 3).bind fun s4=>(rec impl_MakeEven.id [.agg [.int .i64 n2,.sl 1 s3,.sl 3 s4]] r1.2).bind fun r5=>bif r5.1.isTup 2 then bif (r5.1.nth 0).isAgg 3 then (((r5.1.nth 0).cel 0).toI .i64).bind fun n6=>(((r5.1.nth 0).cel 1).toS 1).bind fun s7=>(((r5.1.nth 0).cel 2).toS 3).bind fun s8=>(r5.1.nth 1).toB.bind fun b9=>(rec spec_MakeEven.id [.agg [.int .i64 n2,.sl 1 s3,.sl 3 s4]] r5.2).bind fun r10=>bif r10.1.isTup 2 then bif (r10.1.nth 0).isAgg 3 then (((r10.1.nth 0).cel 0).toI .i64).bind fun n11=>(((r10.1.nth 0).cel 1).toS 1).bind fun s12=>(((r10.1.nth 0).cel 2).toS 3).bind fun s13=>(r10.1.nth 1).toB.bind fun b14=>(rec laws_samePuzzle.id [.agg [.int .i64 n6,.sl 1 s7,.sl 3 s8],.agg [.int .i64 n11,.sl 1 s12,.sl 3 s13]] r10.2).bind fun r15=>r15.1.toB.bind fun b16=>bif !b16 then j0 rec k b9 true n2 s3 s4 n6 s7 s8 r15.2 else j0 rec k b9 (!(b9 == b14)) n2 s3 s4 n6 s7 s8 r15.2 else none else none else none else none else none
theorem j4_eq (rec:Rec) (k:Nat) (n2:Nat) (L2:TL2) (hL2:PhL2 rec k n2 L2):∀ x8 x9 y3_0 y3_1 y3_2 y4_0 y4_1 y4_2 H,j4 rec k L2 x8 x9 y3_0 y3_1 y3_2 y4_0 y4_1 y4_2 H=ex PP o rec k (sub body [1,1,1,1,1,1,1,1,0,1,0,0,1]) (St.of 101 [(3,.lp 3 0),(4,.lp 4 0),(8,.bool x8),(9,.int .i64 x9)] [(3,[.int .i64 y3_0,.sl 1 y3_1,.sl 3 y3_2]),(4,[.int .i64 y4_0,.sl 1 y4_1,.sl 3 y4_2])]) H (kAt PP o rec k body [1,1,1,1,1,1,1,1,0,1,0,0,1] [n2] (K0 PP Go.Proofs.Try.f3)):=by
 intros x8 x9 y3_0 y3_1 y3_2 y4_0 y4_1 y4_2 H
 simp only [j4,hL2,-eq_self]
 kernel_rfl
theorem j5_eq (rec:Rec) (k:Nat):∀ y3_0 y3_1 y3_2 y4_0 y4_1 y4_2 H,j5 rec k y3_0 y3_1 y3_2 y4_0 y4_1 y4_2 H=ex PP o rec k (sub body [1,1,1,1,1,1,1,1,1]) (St.of 101 [(3,.lp 3 0),(4,.lp 4 0)] [(3,[.int .i64 y3_0,.sl 1 y3_1,.sl 3 y3_2]),(4,[.int .i64 y4_0,.sl 1 y4_1,.sl 3 y4_2])]) H (kAt PP o rec k body [1,1,1,1,1,1,1,1,1] [] (K0 PP Go.Proofs.Try.f3)):=by
 intros y3_0 y3_1 y3_2 y4_0 y4_1 y4_2 H
 simp only [j5,-eq_self]
 kernel_rfl
theorem j3_eq (rec:Rec) (k:Nat) (n2:Nat) (L2:TL2) (hL2:PhL2 rec k n2 L2):∀ x8 x9 x62 y3_0 y3_1 y3_2 y4_0 y4_1 y4_2 H,j3 rec k L2 x8 x9 x62 y3_0 y3_1 y3_2 y4_0 y4_1 y4_2 H=ex PP o rec k (sub body [1,1,1,1,1,1,1,1,0,1,0,0,0,1]) (St.of 101 [(3,.lp 3 0),(4,.lp 4 0),(8,.bool x8),(9,.int .i64 x9),(62,.bool x62)] [(3,[.int .i64 y3_0,.sl 1 y3_1,.sl 3 y3_2]),(4,[.int .i64 y4_0,.sl 1 y4_1,.sl 3 y4_2])]) H (kAt PP o rec k body [1,1,1,1,1,1,1,1,0,1,0,0,0,1] [n2] (K0 PP Go.Proofs.Try.f3)):=by
 intros x8 x9 x62 y3_0 y3_1 y3_2 y4_0 y4_1 y4_2 H
 simp only [j3,j4,j5,hL2,-eq_self]
 kernel_rfl
theorem l2_eq (rec:Rec) (k:Nat):∀ n x8 x9 y3_0 y3_1 y3_2 y4_0 y4_1 y4_2 H,l2 rec k n x8 x9 y3_0 y3_1 y3_2 y4_0 y4_1 y4_2 H=iter (o.at (lbody (sub body [1,1,1,1,1,1,1,1,0,1,0]))) (ex PP o rec k (lbody (sub body [1,1,1,1,1,1,1,1,0,1,0]))) (kAt PP o rec k body [1,1,1,1,1,1,1,1,0,1,0] [] (K0 PP Go.Proofs.Try.f3)) n (St.of 101 [(3,.lp 3 0),(4,.lp 4 0),(8,.bool x8),(9,.int .i64 x9)] [(3,[.int .i64 y3_0,.sl 1 y3_1,.sl 3 y3_2]),(4,[.int .i64 y4_0,.sl 1 y4_1,.sl 3 y4_2])]) H:=by
 intro n
 induction n with
 | zero=>intros; rfl
 | succ n ih=>
  intros x8 x9 y3_0 y3_1 y3_2 y4_0 y4_1 y4_2 H
  simp only [l2,j3,j4,j5,ih,-eq_self]
  kernel_rfl
theorem j1_eq (rec:Rec) (k:Nat):∀ x5 y3_0 y3_1 y3_2 y4_0 y4_1 y4_2 H,j1 rec k x5 y3_0 y3_1 y3_2 y4_0 y4_1 y4_2 H=ex PP o rec k (sub body [1,1,1,1,1,1]) (St.of 101 [(3,.lp 3 0),(4,.lp 4 0),(5,.bool x5)] [(3,[.int .i64 y3_0,.sl 1 y3_1,.sl 3 y3_2]),(4,[.int .i64 y4_0,.sl 1 y4_1,.sl 3 y4_2])]) H (kAt PP o rec k body [1,1,1,1,1,1] [] (K0 PP Go.Proofs.Try.f3)):=by
 intros x5 y3_0 y3_1 y3_2 y4_0 y4_1 y4_2 H
 simp only [j1,l2_eq rec k,-eq_self]
 kernel_rfl
theorem j0_eq (rec:Rec) (k:Nat):∀ x5 x37 y3_0 y3_1 y3_2 y4_0 y4_1 y4_2 H,j0 rec k x5 x37 y3_0 y3_1 y3_2 y4_0 y4_1 y4_2 H=ex PP o rec k (sub body [1,1,1,1,1,0,1]) (St.of 101 [(3,.lp 3 0),(4,.lp 4 0),(5,.bool x5),(37,.bool x37)] [(3,[.int .i64 y3_0,.sl 1 y3_1,.sl 3 y3_2]),(4,[.int .i64 y4_0,.sl 1 y4_1,.sl 3 y4_2])]) H (kAt PP o rec k body [1,1,1,1,1,0,1] [] (K0 PP Go.Proofs.Try.f3)):=by
 intros x5 x37 y3_0 y3_1 y3_2 y4_0 y4_1 y4_2 H
 simp only [j0,j1,l2_eq rec k,-eq_self]
 kernel_rfl
theorem f_eq (rec:Rec) (k:Nat):∀ a0 H,f rec k a0 H=ex PP o rec k body (St.of 101 [(0,.sl 1 a0)] []) H (K0 PP Go.Proofs.Try.f3):=by
 intros a0 H
 simp only [f,j0,j1,l2_eq rec k,-eq_self]
 kernel_rfl
theorem call (k:Nat):∀ a0 H,callF PP orc (k + 1) laws_FnMakeEven.id [.sl 1 a0] H=f (callF PP orc k) k a0 H:=by
 intros a0 H
 rw [callF_at (fn:=Go.Proofs.Try.f3) (c:=body) Go.Proofs.Try.func3 (by kernel_rfl) (Nat.le_of_ble_eq_true (by kernel_rfl)),f_eq]
 kernel_rfl
end laws_FnMakeEven
end Go.Proofs.Ytchliocobgkmbaa.Rp
