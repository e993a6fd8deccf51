/- Texts for the row of the law FnEasySteps, part 14: the plain machine, the program's functions on it, what they come to. No conditions. -/
import Derived.Test.YtchliocobgkmbaaAb
import Derived.Test.YtchliocobgkmbaaOr
set_option linter.unusedVariables false
set_option linter.unusedSimpArgs false
set_option maxRecDepth 100000
namespace Go.Proofs.Ytchliocobgkmbaa.Rp
open Go Go.Proofs.Ytchliocobgkmbaa.Ab
namespace laws_sameInts
noncomputable def body:Code:=(Go.Proofs.Try.f21).body.getD .skip
abbrev o:=orc laws_sameInts.id
noncomputable def l0 (rec:Rec) (k:Nat):Nat→Sl→Sl→Int→Hp→An
 | 0,_,_,_,_=>none
 | n + 1,x0,x1,x5,H=>bif decide (x5 < (x0.len:Int)) then bif decide (0 ≤ (x5:Int)) && decide ((x5:Int) < x0.len) then (ldI .i64 H x0.blk (x0.off + (x5:Int).toNat * 1)).bind fun n1=>bif decide (0 ≤ (x5:Int)) && decide ((x5:Int) < x1.len) then (ldI .i64 H x1.blk (x1.off + (x5:Int).toNat * 1)).bind fun n2=>bif n1 != n2 then some (.bool false,H) else (l0 rec k n) x0 x1 (IntKind.i64.wrap (x5 + 1)) H else none else none else some (.bool true,H)
noncomputable def f (rec:Rec) (k:Nat) (a0:Sl) (a1:Sl) (H:Hp):An:=bif (a0.len:Int) != (a1.len:Int) then some (.bool false,H) else l0 rec k k a0 a1 0 H
theorem l0_eq (rec:Rec) (k:Nat):∀ n x0 x1 x5 H,l0 rec k n x0 x1 x5 H=iter (o.at (lbody (sub body [1,1,0,1,0]))) (ex PP o rec k (lbody (sub body [1,1,0,1,0]))) (kAt PP o rec k body [1,1,0,1,0] [] (K0 PP Go.Proofs.Try.f21)) n (St.of 26 [(0,.sl 1 x0),(1,.sl 1 x1),(5,.int .i64 x5)] []) H:=by
 intro n
 induction n with
 | zero=>intros; rfl
 | succ n ih=>
  intros x0 x1 x5 H
  simp only [l0,ih,-eq_self]
  kernel_rfl
theorem f_eq (rec:Rec) (k:Nat):∀ a0 a1 H,f rec k a0 a1 H=ex PP o rec k body (St.of 26 [(0,.sl 1 a0),(1,.sl 1 a1)] []) H (K0 PP Go.Proofs.Try.f21):=by
 intros a0 a1 H
 unfold f
 try simp only [l0_eq rec k,-eq_self]
 kernel_rfl
theorem call (k:Nat):∀ a0 a1 H,callF PP orc (k + 1) laws_sameInts.id [.sl 1 a0,.sl 1 a1] H=f (callF PP orc k) k a0 a1 H:=by
 intros a0 a1 H
 rw [callF_at (fn:=Go.Proofs.Try.f21) (c:=body) Go.Proofs.Try.func21 (by kernel_rfl) (Nat.le_of_ble_eq_true (by kernel_rfl)),f_eq]
 kernel_rfl
end laws_sameInts
namespace laws_FnEasySteps
noncomputable def body:Code:=(Go.Proofs.Try.f12).body.getD .skip
noncomputable def f (rec:Rec) (k:Nat) (a0:Sl) (H:Hp):An:=bif decide ((a0.len:Int) > 1048576) then some (.bool true,H) else (rec spec_DrawTechniqueCounts.id [.sl 1 a0] H).bind fun r1=>bif r1.1.isAgg 3 then ((r1.1.cel 0).toI .i64).bind fun n2=>((r1.1.cel 1).toS 1).bind fun s3=>((r1.1.cel 2).toS 3).bind fun s4=>(rec impl_TechniqueCounts.id [.agg [.int .i64 n2,.sl 1 s3,.sl 3 s4]] r1.2).bind fun r5=>(r5.1.toS 1).bind fun s6=>(rec spec_TechniqueCounts.id [.agg [.int .i64 n2,.sl 1 s3,.sl 3 s4]] r5.2).bind fun r7=>(r7.1.toS 1).bind fun s8=>(rec laws_sameInts.id [.sl 1 s6,.sl 1 s8] r7.2).bind fun r9=>r9.1.toB.bind fun b10=>bif !b10 then some (.bool false,r9.2) else (rec impl_GradePuzzle.id [.agg [.int .i64 n2,.sl 1 s3,.sl 3 s4]] r9.2).bind fun r11=>(r11.1.toI .i64).bind fun n12=>bif n12 != 1 then (rec laws_alive.id [] r11.2).bind fun r13=>r13.1.toB.bind fun b14=>some (.bool b14,r13.2) else bif (s6.len:Int) == 4 then bif decide (0 ≤ (1:Int)) && decide ((1:Int) < s6.len) then (ldI .i64 r11.2 s6.blk (s6.off + (1:Int).toNat * 1)).bind fun n15=>bif n15 == 0 then bif decide (0 ≤ (2:Int)) && decide ((2:Int) < s6.len) then (ldI .i64 r11.2 s6.blk (s6.off + (2:Int).toNat * 1)).bind fun n16=>bif n16 == 0 then bif decide (0 ≤ (3:Int)) && decide ((3:Int) < s6.len) then (ldI .i64 r11.2 s6.blk (s6.off + (3:Int).toNat * 1)).bind fun n17=>some (.bool (n17 == 0),r11.2) else none else some (.bool false,r11.2) else none else some (.bool false,r11.2) else none else some (.bool false,r11.2) else none
theorem f_eq (rec:Rec) (k:Nat):∀ a0 H,f rec k a0 H=ex PP (orc laws_FnEasySteps.id) rec k body (St.of 42 [(0,.sl 1 a0)] []) H (K0 PP Go.Proofs.Try.f12):=by
 intros a0 H
 simp only [f,-eq_self]
 kernel_rfl
theorem call (k:Nat):∀ a0 H,callF PP orc (k + 1) laws_FnEasySteps.id [.sl 1 a0] H=f (callF PP orc k) k a0 H:=by
 intros a0 H
 rw [callF_at (fn:=Go.Proofs.Try.f12) (c:=body) Go.Proofs.Try.func12 (by kernel_rfl) (Nat.le_of_ble_eq_true (by kernel_rfl)),f_eq]
 kernel_rfl
end laws_FnEasySteps
end Go.Proofs.Ytchliocobgkmbaa.Rp
