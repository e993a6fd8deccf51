/- Texts for the row of the law FnSolveSteps, part 12: the plain machine, the program's functions on it, what they come to. No conditions. -/
import Derived.Test.YtchliocobgkmbaaAb
import Derived.Test.YtchliocobgkmbaaOr
set_option linter.unusedVariables false
set_option linter.unusedSimpArgs false
set_option maxRecDepth 100000
namespace Go.Proofs.Ytchliocobgkmbaa.Rp
open Go Go.Proofs.Ytchliocobgkmbaa.Ab
namespace laws_FnSolveSteps
noncomputable def body:Code:=(Go.Proofs.Try.f7).body.getD .skip
abbrev o:=orc laws_FnSolveSteps.id
abbrev TL2:=Int→Sl→Sl→Int→Int→Int→Sl→Sl→Hp→An
abbrev PhL2 (rec:Rec) (k n2:Nat) (L2:TL2):Prop:=∀ x4 x5 x6 x7 x8 y3_0 y3_1 y3_2 H,L2 x4 x5 x6 x7 x8 y3_0 y3_1 y3_2 H=iter (o.at (lbody (sub body [1,1,1,1,1,1,1,1,0,1,0]))) (ex PP o rec k (lbody (sub body [1,1,1,1,1,1,1,1,0,1,0]))) (kAt PP o rec k body [1,1,1,1,1,1,1,1,0,1,0] [] (K0 PP Go.Proofs.Try.f7)) n2 (St.of 118 [(3,.lp 3 0),(4,.int .i64 x4),(5,.sl 2 x5),(6,.sl 2 x6),(7,.int .i64 x7),(8,.int .i64 x8)] [(3,[.int .i64 y3_0,.sl 1 y3_1,.sl 3 y3_2])]) H
noncomputable def j4 (rec:Rec) (k:Nat) (x4:Int) (x5:Sl) (x7:Int) (y3_0:Int) (y3_1:Sl) (y3_2:Sl) (H:Hp):An:=(rec impl_StartMasks.id [.agg [.int .i64 y3_0,.sl 1 y3_1,.sl 3 y3_2]] H).bind fun r25=>(r25.1.toS 1).bind fun s26=>(rec impl_NarrowAll.id [.agg [.int .i64 y3_0,.sl 1 y3_1,.sl 3 y3_2],.sl 1 s26,.int .i64 x4] r25.2).bind fun r27=>bif r27.1.isTup 2 then ((r27.1.nth 0).toS 1).bind fun s28=>((r27.1.nth 1).toI .i64).bind fun n29=>bif n29 == (x5.len:Int) then (rec impl_MasksCount.id [.sl 1 s28,.int .i64 y3_0] r27.2).bind fun r30=>(r30.1.toI .i64).bind fun n31=>some (.bool (x7 == n31),r30.2) else some (.bool false,r27.2) else none
noncomputable def j6 (rec:Rec) (k:Nat) (L2:TL2) (x4:Int) (x5:Sl) (x6:Sl) (x7:Int) (x8:Int) (y3_0:Int) (y3_1:Sl) (y3_2:Sl) (H:Hp):An:=L2 x4 x5 x6 x7 (IntKind.i64.wrap (x8 + 1)) y3_0 y3_1 y3_2 H
noncomputable def j5 (rec:Rec) (k:Nat) (L2:TL2) (x4:Int) (x5:Sl) (x6:Sl) (x8:Int) (y3_0:Int) (y3_1:Sl) (y3_2:Sl) (H:Hp):An:=bif decide (0 ≤ (x8:Int)) && decide ((x8:Int) < x5.len) then (ldI .i64 H x5.blk (x5.off + (x8:Int).toNat * 2 + 1)).bind fun n32=>j6 rec k L2 x4 x5 x6 n32 x8 y3_0 y3_1 y3_2 H else none
noncomputable def j3 (rec:Rec) (k:Nat) (L2:TL2) (x4:Int) (x5:Sl) (x6:Sl) (x8:Int) (x92:Bool) (y3_0:Int) (y3_1:Sl) (y3_2:Sl) (H:Hp):An:=bif x92 then some (.bool false,H) else j5 rec k L2 x4 x5 x6 x8 y3_0 y3_1 y3_2 H
noncomputable def l2 (rec:Rec) (k:Nat):Nat→Int→Sl→Sl→Int→Int→Int→Sl→Sl→Hp→An
 | 0,_,_,_,_,_,_,_,_,_=>none
 | n + 1,x4,x5,x6,x7,x8,y3_0,y3_1,y3_2,H=>bif decide (x8 < (x5.len:Int)) then bif decide (0 ≤ (x8:Int)) && decide ((x8:Int) < x5.len) then (ldI .i64 H x5.blk (x5.off + (x8:Int).toNat * 2)).bind fun n18=>(ldI .i64 H x5.blk (x5.off + (x8:Int).toNat * 2 + 1)).bind fun n19=>bif decide (0 ≤ (x8:Int)) && decide ((x8:Int) < x6.len) then (ldI .i64 H x6.blk (x6.off + (x8:Int).toNat * 2)).bind fun n20=>(ldI .i64 H x6.blk (x6.off + (x8:Int).toNat * 2 + 1)).bind fun n21=>chk (eqT PP 53) (bif !(n18 == n20 && n19 == n21) then j3 rec k (l2 rec k n) x4 x5 x6 x8 true y3_0 y3_1 y3_2 H else bif decide (0 ≤ (x8:Int)) && decide ((x8:Int) < x5.len) then (ldI .i64 H x5.blk (x5.off + (x8:Int).toNat * 2 + 1)).bind fun n22=>bif decide (n22 ≥ x7) then j3 rec k (l2 rec k n) x4 x5 x6 x8 true y3_0 y3_1 y3_2 H else bif decide (0 ≤ (x8:Int)) && decide ((x8:Int) < x5.len) then (ldI .i64 H x5.blk (x5.off + (x8:Int).toNat * 2 + 0)).bind fun n23=>bif decide (n23 < 1) then j3 rec k (l2 rec k n) x4 x5 x6 x8 true y3_0 y3_1 y3_2 H else bif decide (0 ≤ (x8:Int)) && decide ((x8:Int) < x5.len) then (ldI .i64 H x5.blk (x5.off + (x8:Int).toNat * 2 + 0)).bind fun n24=>j3 rec k (l2 rec k n) x4 x5 x6 x8 (decide (n24 > x4)) y3_0 y3_1 y3_2 H else none else none else none) else none else none else j4 rec k x4 x5 x7 y3_0 y3_1 y3_2 H
noncomputable def j1 (rec:Rec) (k:Nat) (x4:Int) (x5:Sl) (x6:Sl) (y3_0:Int) (y3_1:Sl) (y3_2:Sl) (H:Hp):An:=(rec impl_StartMasks.id [.agg [.int .i64 y3_0,.sl 1 y3_1,.sl 3 y3_2]] H).bind fun r14=>(r14.1.toS 1).bind fun s15=>(rec impl_MasksCount.id [.sl 1 s15,.int .i64 y3_0] r14.2).bind fun r16=>(r16.1.toI .i64).bind fun n17=>l2 rec k k x4 x5 x6 n17 0 y3_0 y3_1 y3_2 r16.2
noncomputable def j0 (rec:Rec) (k:Nat) (x4:Int) (x5:Sl) (x6:Sl) (x40:Bool) (y3_0:Int) (y3_1:Sl) (y3_2:Sl) (H:Hp):An:=bif x40 then bif (x5.len:Int) == 0 then (rec laws_alive.id [] H).bind fun r12=>r12.1.toB.bind fun b13=>some (.bool b13,r12.2) else some (.bool false,H) else j1 rec k x4 x5 x6 y3_0 y3_1 y3_2 H
noncomputable def f (rec:Rec) (k:Nat) (a0:Sl) (H:Hp):An:=bif decide ((a0.len:Int) > 1048576) then some (.bool true,H) else (rec spec_DrawSolveSteps.id [.sl 1 a0] H).bind fun r1=>bif r1.1.isTup 2 then bif (r1.1.nth 0).isAgg 3 then (((r1.1.nth 0).cel 0).toI .i64).bind fun n2=>(((r1.1.nth 0).cel 1).toS 1).bind fun s3=>(((r1.1.nth 0).cel 2).toS 3).bind fun s4=>((r1.1.nth 1).toI .i64).bind fun n5=>(rec impl_SolveSteps.id [.agg [.int .i64 n2,.sl 1 s3,.sl 3 s4],.int .i64 n5] r1.2).bind fun r6=>(r6.1.toS 2).bind fun s7=>(rec spec_SolveSteps.id [.agg [.int .i64 n2,.sl 1 s3,.sl 3 s4],.int .i64 n5] r6.2).bind fun r8=>(r8.1.toS 2).bind fun s9=>bif (s7.len:Int) != (s9.len:Int) then some (.bool false,r8.2) else (rec spec_PuzzleValid.id [.agg [.int .i64 n2,.sl 1 s3,.sl 3 s4]] r8.2).bind fun r10=>r10.1.toB.bind fun b11=>bif !b11 then j0 rec k n5 s7 s9 true n2 s3 s4 r10.2 else bif decide (n5 < 1) then j0 rec k n5 s7 s9 true n2 s3 s4 r10.2 else j0 rec k n5 s7 s9 (decide (n5 > 4)) n2 s3 s4 r10.2 else none else none
theorem j4_eq (rec:Rec) (k:Nat):∀ x4 x5 x7 y3_0 y3_1 y3_2 H,j4 rec k x4 x5 x7 y3_0 y3_1 y3_2 H=ex PP o rec k (sub body [1,1,1,1,1,1,1,1,1]) (St.of 118 [(3,.lp 3 0),(4,.int .i64 x4),(5,.sl 2 x5),(7,.int .i64 x7)] [(3,[.int .i64 y3_0,.sl 1 y3_1,.sl 3 y3_2])]) H (kAt PP o rec k body [1,1,1,1,1,1,1,1,1] [] (K0 PP Go.Proofs.Try.f7)):=by
 intros x4 x5 x7 y3_0 y3_1 y3_2 H
 simp only [j4,-eq_self]
 kernel_rfl
theorem j6_eq (rec:Rec) (k:Nat) (n2:Nat) (L2:TL2) (hL2:PhL2 rec k n2 L2):∀ x4 x5 x6 x7 x8 y3_0 y3_1 y3_2 H,j6 rec k L2 x4 x5 x6 x7 x8 y3_0 y3_1 y3_2 H=ex PP o rec k (sub body [1,1,1,1,1,1,1,1,0,1,0,0,1,1]) (St.of 118 [(3,.lp 3 0),(4,.int .i64 x4),(5,.sl 2 x5),(6,.sl 2 x6),(7,.int .i64 x7),(8,.int .i64 x8)] [(3,[.int .i64 y3_0,.sl 1 y3_1,.sl 3 y3_2])]) H (kAt PP o rec k body [1,1,1,1,1,1,1,1,0,1,0,0,1,1] [n2] (K0 PP Go.Proofs.Try.f7)):=by
 intros x4 x5 x6 x7 x8 y3_0 y3_1 y3_2 H
 simp only [j6,hL2,-eq_self]
 kernel_rfl
theorem j5_eq (rec:Rec) (k:Nat) (n2:Nat) (L2:TL2) (hL2:PhL2 rec k n2 L2):∀ x4 x5 x6 x8 y3_0 y3_1 y3_2 H,j5 rec k L2 x4 x5 x6 x8 y3_0 y3_1 y3_2 H=ex PP o rec k (sub body [1,1,1,1,1,1,1,1,0,1,0,0,1,0,0,1]) (St.of 118 [(3,.lp 3 0),(4,.int .i64 x4),(5,.sl 2 x5),(6,.sl 2 x6),(8,.int .i64 x8)] [(3,[.int .i64 y3_0,.sl 1 y3_1,.sl 3 y3_2])]) H (kAt PP o rec k body [1,1,1,1,1,1,1,1,0,1,0,0,1,0,0,1] [n2] (K0 PP Go.Proofs.Try.f7)):=by
 intros x4 x5 x6 x8 y3_0 y3_1 y3_2 H
 simp only [j5,j6,hL2,-eq_self]
 kernel_rfl
theorem j3_eq (rec:Rec) (k:Nat) (n2:Nat) (L2:TL2) (hL2:PhL2 rec k n2 L2):∀ x4 x5 x6 x8 x92 y3_0 y3_1 y3_2 H,j3 rec k L2 x4 x5 x6 x8 x92 y3_0 y3_1 y3_2 H=ex PP o rec k (sub body [1,1,1,1,1,1,1,1,0,1,0,0,1,0,0,0,1]) (St.of 118 [(3,.lp 3 0),(4,.int .i64 x4),(5,.sl 2 x5),(6,.sl 2 x6),(8,.int .i64 x8),(92,.bool x92)] [(3,[.int .i64 y3_0,.sl 1 y3_1,.sl 3 y3_2])]) H (kAt PP o rec k body [1,1,1,1,1,1,1,1,0,1,0,0,1,0,0,0,1] [n2] (K0 PP Go.Proofs.Try.f7)):=by
 intros x4 x5 x6 x8 x92 y3_0 y3_1 y3_2 H
 simp only [j3,j5,j6,hL2,-eq_self]
 kernel_rfl
theorem l2_eq (rec:Rec) (k:Nat):∀ n x4 x5 x6 x7 x8 y3_0 y3_1 y3_2 H,l2 rec k n x4 x5 x6 x7 x8 y3_0 y3_1 y3_2 H=iter (o.at (lbody (sub body [1,1,1,1,1,1,1,1,0,1,0]))) (ex PP o rec k (lbody (sub body [1,1,1,1,1,1,1,1,0,1,0]))) (kAt PP o rec k body [1,1,1,1,1,1,1,1,0,1,0] [] (K0 PP Go.Proofs.Try.f7)) n (St.of 118 [(3,.lp 3 0),(4,.int .i64 x4),(5,.sl 2 x5),(6,.sl 2 x6),(7,.int .i64 x7),(8,.int .i64 x8)] [(3,[.int .i64 y3_0,.sl 1 y3_1,.sl 3 y3_2])]) H:=by
 intro n
 induction n with
 | zero=>intros; first | rfl | kernel_rfl
 | succ n ih=>
  intros x4 x5 x6 x7 x8 y3_0 y3_1 y3_2 H
  simp only [l2,j3,j4,j5,j6,ih,-eq_self]
  kernel_rfl
theorem j1_eq (rec:Rec) (k:Nat):∀ x4 x5 x6 y3_0 y3_1 y3_2 H,j1 rec k x4 x5 x6 y3_0 y3_1 y3_2 H=ex PP o rec k (sub body [1,1,1,1,1,1,1]) (St.of 118 [(3,.lp 3 0),(4,.int .i64 x4),(5,.sl 2 x5),(6,.sl 2 x6)] [(3,[.int .i64 y3_0,.sl 1 y3_1,.sl 3 y3_2])]) H (kAt PP o rec k body [1,1,1,1,1,1,1] [] (K0 PP Go.Proofs.Try.f7)):=by
 intros x4 x5 x6 y3_0 y3_1 y3_2 H
 simp only [j1,l2_eq rec k,-eq_self]
 kernel_rfl
theorem j0_eq (rec:Rec) (k:Nat):∀ x4 x5 x6 x40 y3_0 y3_1 y3_2 H,j0 rec k x4 x5 x6 x40 y3_0 y3_1 y3_2 H=ex PP o rec k (sub body [1,1,1,1,1,1,0,1]) (St.of 118 [(3,.lp 3 0),(4,.int .i64 x4),(5,.sl 2 x5),(6,.sl 2 x6),(40,.bool x40)] [(3,[.int .i64 y3_0,.sl 1 y3_1,.sl 3 y3_2])]) H (kAt PP o rec k body [1,1,1,1,1,1,0,1] [] (K0 PP Go.Proofs.Try.f7)):=by
 intros x4 x5 x6 x40 y3_0 y3_1 y3_2 H
 simp only [j0,j1,l2_eq rec k,-eq_self]
 kernel_rfl
theorem f_eq (rec:Rec) (k:Nat):∀ a0 H,f rec k a0 H=ex PP o rec k body (St.of 118 [(0,.sl 1 a0)] []) H (K0 PP Go.Proofs.Try.f7):=by
 intros a0 H
 simp only [f,j0,j1,l2_eq rec k,-eq_self]
 kernel_rfl
theorem call (k:Nat):∀ a0 H,callF PP orc (k + 1) laws_FnSolveSteps.id [.sl 1 a0] H=f (callF PP orc k) k a0 H:=by
 intros a0 H
 rw [callF_at (fn:=Go.Proofs.Try.f7) (c:=body) Go.Proofs.Try.func7 (by kernel_rfl) (Nat.le_of_ble_eq_true (by kernel_rfl)),f_eq]
 kernel_rfl
end laws_FnSolveSteps
end Go.Proofs.Ytchliocobgkmbaa.Rp
