/- Texts for the row of the law FnStepMasks, part 12: the plain machine, the program's functions on it, what they come to. No conditions. -/
import Derived.Test.YtjojhbdghhmeeaaAb
import Derived.Test.YtjojhbdghhmeeaaOr
set_option linter.unusedVariables false
set_option linter.unusedSimpArgs false
set_option maxRecDepth 100000
namespace Go.Proofs.Ytjojhbdghhmeeaa.Rp
open Go Go.Proofs.Ytjojhbdghhmeeaa.Ab
namespace impl_StepMasks
noncomputable def body:Code:=(Go.Proofs.Try.f75).body.getD .skip
abbrev o:=orc impl_StepMasks.id
noncomputable def j3 (rec:Rec) (k:Nat) (x5:Sl) (H:Hp):An:=some (.sl 1 x5,H)
noncomputable def l2 (rec:Rec) (k:Nat):Nat→Sl→Int→Int→Int→Sl→Sl→Hp→An
 | 0,_,_,_,_,_,_,_=>none
 | n + 1,x5,x16,x17,y2_0,y2_1,y2_2,H=>bif decide (x17 < x16) then (rec impl_nextRound.id [.agg [.int .i64 y2_0,.sl 1 y2_1,.sl 3 y2_2],.sl 1 x5,.int .i64 4] H).bind fun r3=>bif r3.1.isTup 2 then ((r3.1.nth 0).toS 1).bind fun s4=>((r3.1.nth 1).toI .i64).bind fun n5=>bif n5 == 0 then some (.sl 1 Sl.none,r3.2) else (l2 rec k n) s4 x16 (IntKind.i64.wrap (x17 + 1)) y2_0 y2_1 y2_2 r3.2 else none else j3 rec k x5 H
noncomputable def j1 (rec:Rec) (k:Nat) (x1:Int) (x5:Sl) (y2_0:Int) (y2_1:Sl) (y2_2:Sl) (H:Hp):An:=l2 rec k k x5 x1 0 y2_0 y2_1 y2_2 H
noncomputable def j0 (rec:Rec) (k:Nat) (x1:Int) (x5:Sl) (x15:Bool) (y2_0:Int) (y2_1:Sl) (y2_2:Sl) (H:Hp):An:=bif x15 then some (.sl 1 Sl.none,H) else j1 rec k x1 x5 y2_0 y2_1 y2_2 H
noncomputable def f (rec:Rec) (k:Nat) (a0_0:Int) (a0_1:Sl) (a0_2:Sl) (a1:Int) (H:Hp):An:=(rec impl_StartMasks.id [.agg [.int .i64 a0_0,.sl 1 a0_1,.sl 3 a0_2]] H).bind fun r1=>(r1.1.toS 1).bind fun s2=>bif s2.nil then j0 rec k a1 s2 true a0_0 a0_1 a0_2 r1.2 else j0 rec k a1 s2 (decide (a1 < 0)) a0_0 a0_1 a0_2 r1.2
theorem j3_eq (rec:Rec) (k:Nat):∀ x5 H,j3 rec k x5 H=ex PP o rec k (sub body [1,1,1,1]) (St.of 30 [(5,.sl 1 x5)] []) H (kAt PP o rec k body [1,1,1,1] [] (K0 PP Go.Proofs.Try.f75)):=by
 intros x5 H
 unfold j3
 kernel_rfl
theorem l2_eq (rec:Rec) (k:Nat):∀ n x5 x16 x17 y2_0 y2_1 y2_2 H,l2 rec k n x5 x16 x17 y2_0 y2_1 y2_2 H=iter (o.at (lbody (sub body [1,1,1,0,1,0]))) (ex PP o rec k (lbody (sub body [1,1,1,0,1,0]))) (kAt PP o rec k body [1,1,1,0,1,0] [] (K0 PP Go.Proofs.Try.f75)) n (St.of 30 [(2,.lp 2 0),(5,.sl 1 x5),(16,.int .i64 x16),(17,.int .i64 x17)] [(2,[.int .i64 y2_0,.sl 1 y2_1,.sl 3 y2_2])]) H:=by
 intro n
 induction n with
 | zero=>intros; rfl
 | succ n ih=>
  intros x5 x16 x17 y2_0 y2_1 y2_2 H
  simp only [l2,j3_eq rec k,ih,-eq_self]
  kernel_rfl
theorem j1_eq (rec:Rec) (k:Nat):∀ x1 x5 y2_0 y2_1 y2_2 H,j1 rec k x1 x5 y2_0 y2_1 y2_2 H=ex PP o rec k (sub body [1,1,1]) (St.of 30 [(1,.int .i64 x1),(2,.lp 2 0),(5,.sl 1 x5)] [(2,[.int .i64 y2_0,.sl 1 y2_1,.sl 3 y2_2])]) H (kAt PP o rec k body [1,1,1] [] (K0 PP Go.Proofs.Try.f75)):=by
 intros x1 x5 y2_0 y2_1 y2_2 H
 unfold j1
 try simp only [l2_eq rec k,-eq_self]
 kernel_rfl
theorem j0_eq (rec:Rec) (k:Nat):∀ x1 x5 x15 y2_0 y2_1 y2_2 H,j0 rec k x1 x5 x15 y2_0 y2_1 y2_2 H=ex PP o rec k (sub body [1,1,0,1]) (St.of 30 [(1,.int .i64 x1),(2,.lp 2 0),(5,.sl 1 x5),(15,.bool x15)] [(2,[.int .i64 y2_0,.sl 1 y2_1,.sl 3 y2_2])]) H (kAt PP o rec k body [1,1,0,1] [] (K0 PP Go.Proofs.Try.f75)):=by
 intros x1 x5 x15 y2_0 y2_1 y2_2 H
 unfold j0
 try simp only [j1_eq rec k,-eq_self]
 kernel_rfl
theorem f_eq (rec:Rec) (k:Nat):∀ a0_0 a0_1 a0_2 a1 H,f rec k a0_0 a0_1 a0_2 a1 H=ex PP o rec k body (St.of 30 [(0,.agg [.int .i64 a0_0,.sl 1 a0_1,.sl 3 a0_2]),(1,.int .i64 a1)] []) H (K0 PP Go.Proofs.Try.f75):=by
 intros a0_0 a0_1 a0_2 a1 H
 unfold f
 try simp only [j0_eq rec k,-eq_self]
 kernel_rfl
theorem call (k:Nat):∀ a0_0 a0_1 a0_2 a1 H,callF PP orc (k + 1) impl_StepMasks.id [.agg [.int .i64 a0_0,.sl 1 a0_1,.sl 3 a0_2],.int .i64 a1] H=f (callF PP orc k) k a0_0 a0_1 a0_2 a1 H:=by
 intros a0_0 a0_1 a0_2 a1 H
 rw [callF_at (fn:=Go.Proofs.Try.f75) (c:=body) Go.Proofs.Try.func75 (by kernel_rfl) (Nat.le_of_ble_eq_true (by kernel_rfl)),f_eq]
 kernel_rfl
end impl_StepMasks
namespace spec_StepMasks
noncomputable def body:Code:=(Go.Proofs.Try.f76).body.getD .skip
abbrev o:=orc spec_StepMasks.id
noncomputable def j3 (rec:Rec) (k:Nat) (x6:Sl) (H:Hp):An:=some (.sl 1 x6,H)
noncomputable def l2 (rec:Rec) (k:Nat):Nat→Int→Sl→Sl→Int→Int→Sl→Sl→Hp→An
 | 0,_,_,_,_,_,_,_,_=>none
 | n + 1,x1,x5,x6,x7,y2_0,y2_1,y2_2,H=>bif decide (x7 < x1) then bif decide (0 ≤ (x7:Int)) && decide ((x7:Int) < x5.len) then (ldI .i64 H x5.blk (x5.off + (x7:Int).toNat * 2 + 0)).bind fun n9=>(rec spec_NarrowBy.id [.agg [.int .i64 y2_0,.sl 1 y2_1,.sl 3 y2_2],.sl 1 x6,.int .i64 n9] H).bind fun r10=>(r10.1.toS 1).bind fun s11=>(l2 rec k n) x1 x5 s11 (IntKind.i64.wrap (x7 + 1)) y2_0 y2_1 y2_2 r10.2 else none else j3 rec k x6 H
noncomputable def j1 (rec:Rec) (k:Nat) (x1:Int) (x5:Sl) (y2_0:Int) (y2_1:Sl) (y2_2:Sl) (H:Hp):An:=(rec spec_StartMasks.id [.agg [.int .i64 y2_0,.sl 1 y2_1,.sl 3 y2_2]] H).bind fun r7=>(r7.1.toS 1).bind fun s8=>l2 rec k k x1 x5 s8 0 y2_0 y2_1 y2_2 r7.2
noncomputable def j0 (rec:Rec) (k:Nat) (x1:Int) (x5:Sl) (x19:Bool) (y2_0:Int) (y2_1:Sl) (y2_2:Sl) (H:Hp):An:=bif x19 then some (.sl 1 (Sl.mk false H.length 0 0),H ++ [some (Blk.mk false [])]) else j1 rec k x1 x5 y2_0 y2_1 y2_2 H
noncomputable def f (rec:Rec) (k:Nat) (a0_0:Int) (a0_1:Sl) (a0_2:Sl) (a1:Int) (H:Hp):An:=(rec spec_SolveSteps.id [.agg [.int .i64 a0_0,.sl 1 a0_1,.sl 3 a0_2],.int .i64 4] H).bind fun r1=>(r1.1.toS 2).bind fun s2=>(rec spec_PuzzleValid.id [.agg [.int .i64 a0_0,.sl 1 a0_1,.sl 3 a0_2]] r1.2).bind fun r3=>r3.1.toB.bind fun b4=>bif !b4 then j0 rec k a1 s2 true a0_0 a0_1 a0_2 r3.2 else (rec spec_l1In.id [.int .i64 a1,.int .i64 0,.int .i64 (s2.len:Int)] r3.2).bind fun r5=>r5.1.toB.bind fun b6=>j0 rec k a1 s2 (!b6) a0_0 a0_1 a0_2 r5.2
theorem j3_eq (rec:Rec) (k:Nat):∀ x6 H,j3 rec k x6 H=ex PP o rec k (sub body [1,1,1,1,1]) (St.of 37 [(6,.sl 1 x6)] []) H (kAt PP o rec k body [1,1,1,1,1] [] (K0 PP Go.Proofs.Try.f76)):=by
 intros x6 H
 simp only [j3,-eq_self]
 kernel_rfl
theorem l2_eq (rec:Rec) (k:Nat):∀ n x1 x5 x6 x7 y2_0 y2_1 y2_2 H,l2 rec k n x1 x5 x6 x7 y2_0 y2_1 y2_2 H=iter (o.at (lbody (sub body [1,1,1,1,0,1,0]))) (ex PP o rec k (lbody (sub body [1,1,1,1,0,1,0]))) (kAt PP o rec k body [1,1,1,1,0,1,0] [] (K0 PP Go.Proofs.Try.f76)) n (St.of 37 [(1,.int .i64 x1),(2,.lp 2 0),(5,.sl 2 x5),(6,.sl 1 x6),(7,.int .i64 x7)] [(2,[.int .i64 y2_0,.sl 1 y2_1,.sl 3 y2_2])]) H:=by
 intro n
 induction n with
 | zero=>intros; rfl
 | succ n ih=>
  intros x1 x5 x6 x7 y2_0 y2_1 y2_2 H
  simp only [l2,j3,ih,-eq_self]
  kernel_rfl
theorem j1_eq (rec:Rec) (k:Nat):∀ x1 x5 y2_0 y2_1 y2_2 H,j1 rec k x1 x5 y2_0 y2_1 y2_2 H=ex PP o rec k (sub body [1,1,1]) (St.of 37 [(1,.int .i64 x1),(2,.lp 2 0),(5,.sl 2 x5)] [(2,[.int .i64 y2_0,.sl 1 y2_1,.sl 3 y2_2])]) H (kAt PP o rec k body [1,1,1] [] (K0 PP Go.Proofs.Try.f76)):=by
 intros x1 x5 y2_0 y2_1 y2_2 H
 simp only [j1,l2_eq rec k,-eq_self]
 kernel_rfl
theorem j0_eq (rec:Rec) (k:Nat):∀ x1 x5 x19 y2_0 y2_1 y2_2 H,j0 rec k x1 x5 x19 y2_0 y2_1 y2_2 H=ex PP o rec k (sub body [1,1,0,1]) (St.of 37 [(1,.int .i64 x1),(2,.lp 2 0),(5,.sl 2 x5),(19,.bool x19)] [(2,[.int .i64 y2_0,.sl 1 y2_1,.sl 3 y2_2])]) H (kAt PP o rec k body [1,1,0,1] [] (K0 PP Go.Proofs.Try.f76)):=by
 intros x1 x5 x19 y2_0 y2_1 y2_2 H
 simp only [j0,j1,l2_eq rec k,-eq_self]
 kernel_rfl
theorem f_eq (rec:Rec) (k:Nat):∀ a0_0 a0_1 a0_2 a1 H,f rec k a0_0 a0_1 a0_2 a1 H=ex PP o rec k body (St.of 37 [(0,.agg [.int .i64 a0_0,.sl 1 a0_1,.sl 3 a0_2]),(1,.int .i64 a1)] []) H (K0 PP Go.Proofs.Try.f76):=by
 intros a0_0 a0_1 a0_2 a1 H
 simp only [f,j0,j1,l2_eq rec k,-eq_self]
 kernel_rfl
theorem call (k:Nat):∀ a0_0 a0_1 a0_2 a1 H,callF PP orc (k + 1) spec_StepMasks.id [.agg [.int .i64 a0_0,.sl 1 a0_1,.sl 3 a0_2],.int .i64 a1] H=f (callF PP orc k) k a0_0 a0_1 a0_2 a1 H:=by
 intros a0_0 a0_1 a0_2 a1 H
 rw [callF_at (fn:=Go.Proofs.Try.f76) (c:=body) Go.Proofs.Try.func76 (by kernel_rfl) (Nat.le_of_ble_eq_true (by kernel_rfl)),f_eq]
 kernel_rfl
end spec_StepMasks
namespace laws_within
noncomputable def body:Code:=(Go.Proofs.Try.f39).body.getD .skip
abbrev o:=orc laws_within.id
noncomputable def l0 (rec:Rec) (k:Nat):Nat→Sl→Sl→Int→Hp→An
 | 0,_,_,_,_=>none
 | n + 1,x0,x1,x5,H=>bif decide (x5 < (x0.len:Int)) then bif decide (0 ≤ (x5:Int)) && decide ((x5:Int) < x0.len) then (ldI .i64 H x0.blk (x0.off + (x5:Int).toNat * 1)).bind fun n1=>bif decide (0 ≤ (x5:Int)) && decide ((x5:Int) < x1.len) then (ldI .i64 H x1.blk (x1.off + (x5:Int).toNat * 1)).bind fun n2=>bif (IntKind.i64.wrap (((BitVec.ofInt IntKind.i64.bits n1 &&& ~~~ (BitVec.ofInt IntKind.i64.bits n2)).toNat:Int))) != 0 then some (.bool false,H) else (l0 rec k n) x0 x1 (IntKind.i64.wrap (x5 + 1)) H else none else none else some (.bool true,H)
noncomputable def f (rec:Rec) (k:Nat) (a0:Sl) (a1:Sl) (H:Hp):An:=bif (a0.len:Int) != (a1.len:Int) then some (.bool false,H) else l0 rec k k a0 a1 0 H
theorem l0_eq (rec:Rec) (k:Nat):∀ n x0 x1 x5 H,l0 rec k n x0 x1 x5 H=iter (o.at (lbody (sub body [1,1,0,1,0]))) (ex PP o rec k (lbody (sub body [1,1,0,1,0]))) (kAt PP o rec k body [1,1,0,1,0] [] (K0 PP Go.Proofs.Try.f39)) n (St.of 27 [(0,.sl 1 x0),(1,.sl 1 x1),(5,.int .i64 x5)] []) H:=by
 intro n
 induction n with
 | zero=>intros; rfl
 | succ n ih=>
  intros x0 x1 x5 H
  simp only [l0,ih,-eq_self]
  kernel_rfl
theorem f_eq (rec:Rec) (k:Nat):∀ a0 a1 H,f rec k a0 a1 H=ex PP o rec k body (St.of 27 [(0,.sl 1 a0),(1,.sl 1 a1)] []) H (K0 PP Go.Proofs.Try.f39):=by
 intros a0 a1 H
 unfold f
 try simp only [l0_eq rec k,-eq_self]
 kernel_rfl
theorem call (k:Nat):∀ a0 a1 H,callF PP orc (k + 1) laws_within.id [.sl 1 a0,.sl 1 a1] H=f (callF PP orc k) k a0 a1 H:=by
 intros a0 a1 H
 rw [callF_at (fn:=Go.Proofs.Try.f39) (c:=body) Go.Proofs.Try.func39 (by kernel_rfl) (Nat.le_of_ble_eq_true (by kernel_rfl)),f_eq]
 kernel_rfl
end laws_within
namespace laws_sameInts
noncomputable def body:Code:=(Go.Proofs.Try.f32).body.getD .skip
abbrev o:=orc laws_sameInts.id
noncomputable def l0 (rec:Rec) (k:Nat):Nat→Sl→Sl→Int→Hp→An
 | 0,_,_,_,_=>none
 | n + 1,x0,x1,x5,H=>bif decide (x5 < (x0.len:Int)) then bif decide (0 ≤ (x5:Int)) && decide ((x5:Int) < x0.len) then (ldI .i64 H x0.blk (x0.off + (x5:Int).toNat * 1)).bind fun n1=>bif decide (0 ≤ (x5:Int)) && decide ((x5:Int) < x1.len) then (ldI .i64 H x1.blk (x1.off + (x5:Int).toNat * 1)).bind fun n2=>bif n1 != n2 then some (.bool false,H) else (l0 rec k n) x0 x1 (IntKind.i64.wrap (x5 + 1)) H else none else none else some (.bool true,H)
noncomputable def f (rec:Rec) (k:Nat) (a0:Sl) (a1:Sl) (H:Hp):An:=bif (a0.len:Int) != (a1.len:Int) then some (.bool false,H) else l0 rec k k a0 a1 0 H
theorem l0_eq (rec:Rec) (k:Nat):∀ n x0 x1 x5 H,l0 rec k n x0 x1 x5 H=iter (o.at (lbody (sub body [1,1,0,1,0]))) (ex PP o rec k (lbody (sub body [1,1,0,1,0]))) (kAt PP o rec k body [1,1,0,1,0] [] (K0 PP Go.Proofs.Try.f32)) n (St.of 26 [(0,.sl 1 x0),(1,.sl 1 x1),(5,.int .i64 x5)] []) H:=by
 intro n
 induction n with
 | zero=>intros; rfl
 | succ n ih=>
  intros x0 x1 x5 H
  simp only [l0,ih,-eq_self]
  kernel_rfl
theorem f_eq (rec:Rec) (k:Nat):∀ a0 a1 H,f rec k a0 a1 H=ex PP o rec k body (St.of 26 [(0,.sl 1 a0),(1,.sl 1 a1)] []) H (K0 PP Go.Proofs.Try.f32):=by
 intros a0 a1 H
 unfold f
 try simp only [l0_eq rec k,-eq_self]
 kernel_rfl
theorem call (k:Nat):∀ a0 a1 H,callF PP orc (k + 1) laws_sameInts.id [.sl 1 a0,.sl 1 a1] H=f (callF PP orc k) k a0 a1 H:=by
 intros a0 a1 H
 rw [callF_at (fn:=Go.Proofs.Try.f32) (c:=body) Go.Proofs.Try.func32 (by kernel_rfl) (Nat.le_of_ble_eq_true (by kernel_rfl)),f_eq]
 kernel_rfl
end laws_sameInts
namespace laws_FnStepMasks
noncomputable def body:Code:=(Go.Proofs.Try.f17).body.getD .skip
abbrev o:=orc laws_FnStepMasks.id
noncomputable def j1 (rec:Rec) (k:Nat) (x4:Int) (x5:Sl) (x6:Int) (y3_0:Int) (y3_1:Sl) (y3_2:Sl) (H:Hp):An:=(rec impl_StartMasks.id [.agg [.int .i64 y3_0,.sl 1 y3_1,.sl 3 y3_2]] H).bind fun r18=>(r18.1.toS 1).bind fun s19=>(rec impl_NarrowAll.id [.agg [.int .i64 y3_0,.sl 1 y3_1,.sl 3 y3_2],.sl 1 s19,.int .i64 4] r18.2).bind fun r20=>bif r20.1.isTup 2 then ((r20.1.nth 0).toS 1).bind fun s21=>((r20.1.nth 1).toI .i64).bind fun n22=>(rec laws_within.id [.sl 1 s21,.sl 1 x5] r20.2).bind fun r23=>r23.1.toB.bind fun b24=>bif b24 then (rec impl_StepMasks.id [.agg [.int .i64 y3_0,.sl 1 y3_1,.sl 3 y3_2],.int .i64 x6] r23.2).bind fun r25=>(r25.1.toS 1).bind fun s26=>(rec laws_sameInts.id [.sl 1 s26,.sl 1 s21] r25.2).bind fun r27=>r27.1.toB.bind fun b28=>bif b28 then bif x4 == 0 then some (.bool true,r27.2) else (rec impl_StepMasks.id [.agg [.int .i64 y3_0,.sl 1 y3_1,.sl 3 y3_2],.int .i64 (IntKind.i64.wrap (x4 - 1))] r27.2).bind fun r29=>(r29.1.toS 1).bind fun s30=>(rec laws_within.id [.sl 1 x5,.sl 1 s30] r29.2).bind fun r31=>r31.1.toB.bind fun b32=>bif b32 then (rec impl_StepMasks.id [.agg [.int .i64 y3_0,.sl 1 y3_1,.sl 3 y3_2],.int .i64 (IntKind.i64.wrap (x4 - 1))] r31.2).bind fun r33=>(r33.1.toS 1).bind fun s34=>(rec laws_sameInts.id [.sl 1 x5,.sl 1 s34] r33.2).bind fun r35=>r35.1.toB.bind fun b36=>some (.bool (!b36),r35.2) else some (.bool false,r31.2) else some (.bool false,r27.2) else some (.bool false,r23.2) else none
noncomputable def j0 (rec:Rec) (k:Nat) (x4:Int) (x5:Sl) (x6:Int) (x40:Bool) (y3_0:Int) (y3_1:Sl) (y3_2:Sl) (H:Hp):An:=bif x40 then bif (x5.len:Int) == 0 then (rec laws_alive.id [] H).bind fun r16=>r16.1.toB.bind fun b17=>some (.bool b17,r16.2) else some (.bool false,H) else j1 rec k x4 x5 x6 y3_0 y3_1 y3_2 H
noncomputable def f (rec:Rec) (k:Nat) (a0:Sl) (H:Hp):An:=bif decide ((a0.len:Int) > 1048576) then some (.bool true,H) else (rec spec_DrawStepMasks.id [.sl 1 a0] H).bind fun r1=>bif r1.1.isTup 2 then bif (r1.1.nth 0).isAgg 3 then (((r1.1.nth 0).cel 0).toI .i64).bind fun n2=>(((r1.1.nth 0).cel 1).toS 1).bind fun s3=>(((r1.1.nth 0).cel 2).toS 3).bind fun s4=>((r1.1.nth 1).toI .i64).bind fun n5=>(rec impl_StepMasks.id [.agg [.int .i64 n2,.sl 1 s3,.sl 3 s4],.int .i64 n5] r1.2).bind fun r6=>(r6.1.toS 1).bind fun s7=>(rec spec_StepMasks.id [.agg [.int .i64 n2,.sl 1 s3,.sl 3 s4],.int .i64 n5] r6.2).bind fun r8=>(r8.1.toS 1).bind fun s9=>(rec laws_sameInts.id [.sl 1 s7,.sl 1 s9] r8.2).bind fun r10=>r10.1.toB.bind fun b11=>bif !b11 then some (.bool false,r10.2) else (rec impl_SolveSteps.id [.agg [.int .i64 n2,.sl 1 s3,.sl 3 s4],.int .i64 4] r10.2).bind fun r12=>(r12.1.toS 2).bind fun s13=>(rec spec_PuzzleValid.id [.agg [.int .i64 n2,.sl 1 s3,.sl 3 s4]] r12.2).bind fun r14=>r14.1.toB.bind fun b15=>bif !b15 then j0 rec k n5 s7 (s13.len:Int) true n2 s3 s4 r14.2 else bif decide (n5 < 0) then j0 rec k n5 s7 (s13.len:Int) true n2 s3 s4 r14.2 else j0 rec k n5 s7 (s13.len:Int) (decide (n5 > (s13.len:Int))) n2 s3 s4 r14.2 else none else none
theorem j1_eq (rec:Rec) (k:Nat):∀ x4 x5 x6 y3_0 y3_1 y3_2 H,j1 rec k x4 x5 x6 y3_0 y3_1 y3_2 H=ex PP o rec k (sub body [1,1,1,1,1,1,1]) (St.of 85 [(3,.lp 3 0),(4,.int .i64 x4),(5,.sl 1 x5),(6,.int .i64 x6)] [(3,[.int .i64 y3_0,.sl 1 y3_1,.sl 3 y3_2])]) H (kAt PP o rec k body [1,1,1,1,1,1,1] [] (K0 PP Go.Proofs.Try.f17)):=by
 intros x4 x5 x6 y3_0 y3_1 y3_2 H
 simp only [j1,-eq_self]
 kernel_rfl
theorem j0_eq (rec:Rec) (k:Nat):∀ x4 x5 x6 x40 y3_0 y3_1 y3_2 H,j0 rec k x4 x5 x6 x40 y3_0 y3_1 y3_2 H=ex PP o rec k (sub body [1,1,1,1,1,1,0,1]) (St.of 85 [(3,.lp 3 0),(4,.int .i64 x4),(5,.sl 1 x5),(6,.int .i64 x6),(40,.bool x40)] [(3,[.int .i64 y3_0,.sl 1 y3_1,.sl 3 y3_2])]) H (kAt PP o rec k body [1,1,1,1,1,1,0,1] [] (K0 PP Go.Proofs.Try.f17)):=by
 intros x4 x5 x6 x40 y3_0 y3_1 y3_2 H
 simp only [j0,j1,-eq_self]
 kernel_rfl
theorem f_eq (rec:Rec) (k:Nat):∀ a0 H,f rec k a0 H=ex PP o rec k body (St.of 85 [(0,.sl 1 a0)] []) H (K0 PP Go.Proofs.Try.f17):=by
 intros a0 H
 simp only [f,j0,j1,-eq_self]
 kernel_rfl
theorem call (k:Nat):∀ a0 H,callF PP orc (k + 1) laws_FnStepMasks.id [.sl 1 a0] H=f (callF PP orc k) k a0 H:=by
 intros a0 H
 rw [callF_at (fn:=Go.Proofs.Try.f17) (c:=body) Go.Proofs.Try.func17 (by kernel_rfl) (Nat.le_of_ble_eq_true (by kernel_rfl)),f_eq]
 kernel_rfl
end laws_FnStepMasks
namespace spec_DrawStepMasks
noncomputable def body:Code:=(Go.Proofs.Try.f74).body.getD .skip
noncomputable def f (rec:Rec) (k:Nat) (a0:Sl) (H:Hp):An:=(rec spec_l20Open.id [.sl 1 a0] H).bind fun r1=>r1.1.toP.bind fun p2=>(rec spec_l20Puzzle.id [.ptr p2.1 p2.2,.int .i64 12] r1.2).bind fun r3=>bif r3.1.isAgg 3 then ((r3.1.cel 0).toI .i64).bind fun n4=>((r3.1.cel 1).toS 1).bind fun s5=>((r3.1.cel 2).toS 3).bind fun s6=>(rec spec_l20Rd_pick.id [.ptr p2.1 p2.2,.int .i64 8] r3.2).bind fun r7=>(r7.1.toI .i64).bind fun n8=>some (.tup [.agg [.int .i64 n4,.sl 1 s5,.sl 3 s6],.int .i64 (IntKind.i64.wrap (n8 - 1))],r7.2) else none
theorem f_eq (rec:Rec) (k:Nat):∀ a0 H,f rec k a0 H=ex PP (orc spec_DrawStepMasks.id) rec k body (St.of 14 [(0,.sl 1 a0)] []) H (K0 PP Go.Proofs.Try.f74):=by
 intros a0 H
 unfold f
 kernel_rfl
theorem call (k:Nat):∀ a0 H,callF PP orc (k + 1) spec_DrawStepMasks.id [.sl 1 a0] H=f (callF PP orc k) k a0 H:=by
 intros a0 H
 rw [callF_at (fn:=Go.Proofs.Try.f74) (c:=body) Go.Proofs.Try.func74 (by kernel_rfl) (Nat.le_of_ble_eq_true (by kernel_rfl)),f_eq]
 kernel_rfl
end spec_DrawStepMasks
end Go.Proofs.Ytjojhbdghhmeeaa.Rp
