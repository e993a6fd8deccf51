/- Texts for the row of the law FnEasySteps, part 7: the plain machine, the program's functions on it, what they come to. No conditions. -/
import Derived.Test.YtchliocobgkmbaaAb
import Derived.Test.YtchliocobgkmbaaOr
set_option linter.unusedVariables false
set_option linter.unusedSimpArgs false
set_option maxRecDepth 100000
namespace Go.Proofs.Ytchliocobgkmbaa.Rp
open Go Go.Proofs.Ytchliocobgkmbaa.Ab
namespace impl_MasksValid
noncomputable def body:Code:=(Go.Proofs.Try.f64).body.getD .skip
abbrev o:=orc impl_MasksValid.id
abbrev TL2:=Int→Sl→Int→Int→Hp→An
abbrev PhL2 (rec:Rec) (k n2:Nat) (L2:TL2):Prop:=∀ x1 x18 x19 x20 H,L2 x1 x18 x19 x20 H=iter (o.at (lbody (sub body [1,1,0,1,0]))) (ex PP o rec k (lbody (sub body [1,1,0,1,0]))) (kAt PP o rec k body [1,1,0,1,0] [] (K0 PP Go.Proofs.Try.f64)) n2 (St.of 34 [(1,.int .i64 x1),(18,.sl 1 x18),(19,.int .i64 x19),(20,.int .i64 x20)] []) H
noncomputable def j4 (rec:Rec) (k:Nat) (L2:TL2) (x1:Int) (x18:Sl) (x19:Int) (x20:Int) (H:Hp):An:=L2 x1 x18 x19 (IntKind.i64.wrap (x20 + 1)) H
noncomputable def j3 (rec:Rec) (k:Nat) (L2:TL2) (x1:Int) (x18:Sl) (x19:Int) (x20:Int) (x32:Bool) (H:Hp):An:=bif x32 then some (.bool false,H) else j4 rec k L2 x1 x18 x19 x20 H
noncomputable def l2 (rec:Rec) (k:Nat):Nat→Int→Sl→Int→Int→Hp→An
 | 0,_,_,_,_,_=>none
 | n + 1,x1,x18,x19,x20,H=>bif decide (x20 < x19) then bif decide (0 ≤ (x20:Int)) && decide ((x20:Int) < x18.len) then (ldI .i64 H x18.blk (x18.off + (x20:Int).toNat * 1)).bind fun n3=>bif decide (n3 < 0) then j3 rec k (l2 rec k n) x1 x18 x19 x20 true H else (rec impl_allValues.id [.int .i64 x1] H).bind fun r4=>(r4.1.toI .i64).bind fun n5=>j3 rec k (l2 rec k n) x1 x18 x19 x20 ((IntKind.i64.wrap (((BitVec.ofInt IntKind.i64.bits n3 &&& ~~~ (BitVec.ofInt IntKind.i64.bits n5)).toNat:Int))) != 0) r4.2 else none else some (.bool true,H)
noncomputable def j1 (rec:Rec) (k:Nat) (x0:Sl) (x1:Int) (H:Hp):An:=l2 rec k k x1 x0 (x0.len:Int) 0 H
noncomputable def j0 (rec:Rec) (k:Nat) (x0:Sl) (x1:Int) (x17:Bool) (H:Hp):An:=bif x17 then some (.bool false,H) else j1 rec k x0 x1 H
noncomputable def f (rec:Rec) (k:Nat) (a0:Sl) (a1:Int) (H:Hp):An:=(rec impl_sizeOk.id [.int .i64 a1] H).bind fun r1=>r1.1.toB.bind fun b2=>bif !b2 then j0 rec k a0 a1 true r1.2 else j0 rec k a0 a1 ((a0.len:Int) != (IntKind.i64.wrap (a1 * a1))) r1.2
theorem j4_eq (rec:Rec) (k:Nat) (n2:Nat) (L2:TL2) (hL2:PhL2 rec k n2 L2):∀ x1 x18 x19 x20 H,j4 rec k L2 x1 x18 x19 x20 H=ex PP o rec k (sub body [1,1,0,1,0,0,1,1,1]) (St.of 34 [(1,.int .i64 x1),(18,.sl 1 x18),(19,.int .i64 x19),(20,.int .i64 x20)] []) H (kAt PP o rec k body [1,1,0,1,0,0,1,1,1] [n2] (K0 PP Go.Proofs.Try.f64)):=by
 intros x1 x18 x19 x20 H
 unfold j4
 try simp only [hL2,-eq_self]
 kernel_rfl
theorem j3_eq (rec:Rec) (k:Nat) (n2:Nat) (L2:TL2) (hL2:PhL2 rec k n2 L2):∀ x1 x18 x19 x20 x32 H,j3 rec k L2 x1 x18 x19 x20 x32 H=ex PP o rec k (sub body [1,1,0,1,0,0,1,1,0,0,1,1]) (St.of 34 [(1,.int .i64 x1),(18,.sl 1 x18),(19,.int .i64 x19),(20,.int .i64 x20),(32,.bool x32)] []) H (kAt PP o rec k body [1,1,0,1,0,0,1,1,0,0,1,1] [n2] (K0 PP Go.Proofs.Try.f64)):=by
 intros x1 x18 x19 x20 x32 H
 unfold j3
 try simp only [hL2,j4_eq rec k n2 L2 hL2,-eq_self]
 kernel_rfl
theorem l2_eq (rec:Rec) (k:Nat):∀ n x1 x18 x19 x20 H,l2 rec k n x1 x18 x19 x20 H=iter (o.at (lbody (sub body [1,1,0,1,0]))) (ex PP o rec k (lbody (sub body [1,1,0,1,0]))) (kAt PP o rec k body [1,1,0,1,0] [] (K0 PP Go.Proofs.Try.f64)) n (St.of 34 [(1,.int .i64 x1),(18,.sl 1 x18),(19,.int .i64 x19),(20,.int .i64 x20)] []) H:=by
 intro n
 induction n with
 | zero=>intros; rfl
 | succ n ih=>
  intros x1 x18 x19 x20 H
  simp only [l2,j3_eq rec k n (l2 rec k n) (fun x1 x18 x19 x20 H=>ih x1 x18 x19 x20 H),ih,-eq_self]
  kernel_rfl
theorem j1_eq (rec:Rec) (k:Nat):∀ x0 x1 H,j1 rec k x0 x1 H=ex PP o rec k (sub body [1,1]) (St.of 34 [(0,.sl 1 x0),(1,.int .i64 x1)] []) H (kAt PP o rec k body [1,1] [] (K0 PP Go.Proofs.Try.f64)):=by
 intros x0 x1 H
 unfold j1
 try simp only [l2_eq rec k,-eq_self]
 kernel_rfl
theorem j0_eq (rec:Rec) (k:Nat):∀ x0 x1 x17 H,j0 rec k x0 x1 x17 H=ex PP o rec k (sub body [1,0,1]) (St.of 34 [(0,.sl 1 x0),(1,.int .i64 x1),(17,.bool x17)] []) H (kAt PP o rec k body [1,0,1] [] (K0 PP Go.Proofs.Try.f64)):=by
 intros x0 x1 x17 H
 unfold j0
 try simp only [j1_eq rec k,-eq_self]
 kernel_rfl
theorem f_eq (rec:Rec) (k:Nat):∀ a0 a1 H,f rec k a0 a1 H=ex PP o rec k body (St.of 34 [(0,.sl 1 a0),(1,.int .i64 a1)] []) H (K0 PP Go.Proofs.Try.f64):=by
 intros a0 a1 H
 unfold f
 try simp only [j0_eq rec k,-eq_self]
 kernel_rfl
theorem call (k:Nat):∀ a0 a1 H,callF PP orc (k + 1) impl_MasksValid.id [.sl 1 a0,.int .i64 a1] H=f (callF PP orc k) k a0 a1 H:=by
 intros a0 a1 H
 rw [callF_at (fn:=Go.Proofs.Try.f64) (c:=body) Go.Proofs.Try.func64 (by kernel_rfl) (Nat.le_of_ble_eq_true (by kernel_rfl)),f_eq]
 kernel_rfl
end impl_MasksValid
namespace slices_Equal_int
noncomputable def body:Code:=(Go.Proofs.Try.f100).body.getD .skip
abbrev o:=orc slices_Equal_int.id
noncomputable def l0 (rec:Rec) (k:Nat):Nat→Sl→Sl→Int→Int→Hp→An
 | 0,_,_,_,_,_=>none
 | n + 1,x0,x1,x12,x13,H=>bif decide (x13 < x12) then bif decide (0 ≤ (x13:Int)) && decide ((x13:Int) < x0.len) then (ldI .i64 H x0.blk (x0.off + (x13:Int).toNat * 1)).bind fun n1=>bif decide (0 ≤ (x13:Int)) && decide ((x13:Int) < x1.len) then (ldI .i64 H x1.blk (x1.off + (x13:Int).toNat * 1)).bind fun n2=>bif n1 != n2 then some (.bool false,H) else (l0 rec k n) x0 x1 x12 (IntKind.i64.wrap (x13 + 1)) H else none else none else some (.bool true,H)
noncomputable def f (rec:Rec) (k:Nat) (a0:Sl) (a1:Sl) (H:Hp):An:=bif (a0.len:Int) != (a1.len:Int) then some (.bool false,H) else l0 rec k k a0 a1 (a0.len:Int) 0 H
theorem l0_eq (rec:Rec) (k:Nat):∀ n x0 x1 x12 x13 H,l0 rec k n x0 x1 x12 x13 H=iter (o.at (lbody (sub body [1,1,0,1,0]))) (ex PP o rec k (lbody (sub body [1,1,0,1,0]))) (kAt PP o rec k body [1,1,0,1,0] [] (K0 PP Go.Proofs.Try.f100)) n (St.of 26 [(0,.sl 1 x0),(1,.sl 1 x1),(12,.int .i64 x12),(13,.int .i64 x13)] []) H:=by
 intro n
 induction n with
 | zero=>intros; rfl
 | succ n ih=>
  intros x0 x1 x12 x13 H
  simp only [l0,ih,-eq_self]
  kernel_rfl
theorem f_eq (rec:Rec) (k:Nat):∀ a0 a1 H,f rec k a0 a1 H=ex PP o rec k body (St.of 26 [(0,.sl 1 a0),(1,.sl 1 a1)] []) H (K0 PP Go.Proofs.Try.f100):=by
 intros a0 a1 H
 unfold f
 try simp only [l0_eq rec k,-eq_self]
 kernel_rfl
theorem call (k:Nat):∀ a0 a1 H,callF PP orc (k + 1) slices_Equal_int.id [.sl 1 a0,.sl 1 a1] H=f (callF PP orc k) k a0 a1 H:=by
 intros a0 a1 H
 rw [callF_at (fn:=Go.Proofs.Try.f100) (c:=body) Go.Proofs.Try.func100 (by kernel_rfl) (Nat.le_of_ble_eq_true (by kernel_rfl)),f_eq]
 kernel_rfl
end slices_Equal_int
namespace math_bits_OnesCount
noncomputable def body:Code:=(Go.Proofs.Try.f78).body.getD .skip
noncomputable def f (rec:Rec) (k:Nat) (a0:Int) (H:Hp):An:=(rec math_bits_OnesCount64.id [.int .u64 a0] H).bind fun r1=>(r1.1.toI .i64).bind fun n2=>some (.int .i64 n2,r1.2)
theorem f_eq (rec:Rec) (k:Nat):∀ a0 H,f rec k a0 H=ex PP (orc math_bits_OnesCount.id) rec k body (St.of 8 [(0,.int .u64 a0)] []) H (K0 PP Go.Proofs.Try.f78):=by
 intros a0 H
 unfold f
 kernel_rfl
theorem call (k:Nat):∀ a0 H,callF PP orc (k + 1) math_bits_OnesCount.id [.int .u64 a0] H=f (callF PP orc k) k a0 H:=by
 intros a0 H
 rw [callF_at (fn:=Go.Proofs.Try.f78) (c:=body) Go.Proofs.Try.func78 (by kernel_rfl) (Nat.le_of_ble_eq_true (by kernel_rfl)),f_eq]
 kernel_rfl
end math_bits_OnesCount
namespace math_bits_OnesCount64
noncomputable def body:Code:=(Go.Proofs.Try.f106).body.getD .skip
noncomputable def f (rec:Rec) (k:Nat) (a0:Int) (H:Hp):An:=some (.int .i64 (IntKind.i64.wrap (((BitVec.ofInt IntKind.i64.bits (IntKind.i64.wrap (IntKind.u64.wrap ((IntKind.u64.wrap ((IntKind.u64.wrap ((IntKind.u64.wrap (((BitVec.ofInt IntKind.u64.bits (IntKind.u64.wrap (((IntKind.u64.wrap ((IntKind.u64.wrap (((BitVec.ofInt IntKind.u64.bits ((IntKind.u64.wrap ((IntKind.u64.wrap (((BitVec.ofInt IntKind.u64.bits ((a0:Int).fdiv (2 ^ (min (1:Int).toNat IntKind.u64.bits))) &&& BitVec.ofInt IntKind.u64.bits 6148914691236517205).toNat:Int))) + (IntKind.u64.wrap (((BitVec.ofInt IntKind.u64.bits a0 &&& BitVec.ofInt IntKind.u64.bits 6148914691236517205).toNat:Int)))):Int).fdiv (2 ^ (min (2:Int).toNat IntKind.u64.bits))) &&& BitVec.ofInt IntKind.u64.bits 3689348814741910323).toNat:Int))) + (IntKind.u64.wrap (((BitVec.ofInt IntKind.u64.bits (IntKind.u64.wrap ((IntKind.u64.wrap (((BitVec.ofInt IntKind.u64.bits ((a0:Int).fdiv (2 ^ (min (1:Int).toNat IntKind.u64.bits))) &&& BitVec.ofInt IntKind.u64.bits 6148914691236517205).toNat:Int))) + (IntKind.u64.wrap (((BitVec.ofInt IntKind.u64.bits a0 &&& BitVec.ofInt IntKind.u64.bits 6148914691236517205).toNat:Int))))) &&& BitVec.ofInt IntKind.u64.bits 3689348814741910323).toNat:Int)))):Int).fdiv (2 ^ (min (4:Int).toNat IntKind.u64.bits))) + (IntKind.u64.wrap ((IntKind.u64.wrap (((BitVec.ofInt IntKind.u64.bits ((IntKind.u64.wrap ((IntKind.u64.wrap (((BitVec.ofInt IntKind.u64.bits ((a0:Int).fdiv (2 ^ (min (1:Int).toNat IntKind.u64.bits))) &&& BitVec.ofInt IntKind.u64.bits 6148914691236517205).toNat:Int))) + (IntKind.u64.wrap (((BitVec.ofInt IntKind.u64.bits a0 &&& BitVec.ofInt IntKind.u64.bits 6148914691236517205).toNat:Int)))):Int).fdiv (2 ^ (min (2:Int).toNat IntKind.u64.bits))) &&& BitVec.ofInt IntKind.u64.bits 3689348814741910323).toNat:Int))) + (IntKind.u64.wrap (((BitVec.ofInt IntKind.u64.bits (IntKind.u64.wrap ((IntKind.u64.wrap (((BitVec.ofInt IntKind.u64.bits ((a0:Int).fdiv (2 ^ (min (1:Int).toNat IntKind.u64.bits))) &&& BitVec.ofInt IntKind.u64.bits 6148914691236517205).toNat:Int))) + (IntKind.u64.wrap (((BitVec.ofInt IntKind.u64.bits a0 &&& BitVec.ofInt IntKind.u64.bits 6148914691236517205).toNat:Int))))) &&& BitVec.ofInt IntKind.u64.bits 3689348814741910323).toNat:Int))))))) &&& BitVec.ofInt IntKind.u64.bits 1085102592571150095).toNat:Int))) + ((IntKind.u64.wrap (((BitVec.ofInt IntKind.u64.bits (IntKind.u64.wrap (((IntKind.u64.wrap ((IntKind.u64.wrap (((BitVec.ofInt IntKind.u64.bits ((IntKind.u64.wrap ((IntKind.u64.wrap (((BitVec.ofInt IntKind.u64.bits ((a0:Int).fdiv (2 ^ (min (1:Int).toNat IntKind.u64.bits))) &&& BitVec.ofInt IntKind.u64.bits 6148914691236517205).toNat:Int))) + (IntKind.u64.wrap (((BitVec.ofInt IntKind.u64.bits a0 &&& BitVec.ofInt IntKind.u64.bits 6148914691236517205).toNat:Int)))):Int).fdiv (2 ^ (min (2:Int).toNat IntKind.u64.bits))) &&& BitVec.ofInt IntKind.u64.bits 3689348814741910323).toNat:Int))) + (IntKind.u64.wrap (((BitVec.ofInt IntKind.u64.bits (IntKind.u64.wrap ((IntKind.u64.wrap (((BitVec.ofInt IntKind.u64.bits ((a0:Int).fdiv (2 ^ (min (1:Int).toNat IntKind.u64.bits))) &&& BitVec.ofInt IntKind.u64.bits 6148914691236517205).toNat:Int))) + (IntKind.u64.wrap (((BitVec.ofInt IntKind.u64.bits a0 &&& BitVec.ofInt IntKind.u64.bits 6148914691236517205).toNat:Int))))) &&& BitVec.ofInt IntKind.u64.bits 3689348814741910323).toNat:Int)))):Int).fdiv (2 ^ (min (4:Int).toNat IntKind.u64.bits))) + (IntKind.u64.wrap ((IntKind.u64.wrap (((BitVec.ofInt IntKind.u64.bits ((IntKind.u64.wrap ((IntKind.u64.wrap (((BitVec.ofInt IntKind.u64.bits ((a0:Int).fdiv (2 ^ (min (1:Int).toNat IntKind.u64.bits))) &&& BitVec.ofInt IntKind.u64.bits 6148914691236517205).toNat:Int))) + (IntKind.u64.wrap (((BitVec.ofInt IntKind.u64.bits a0 &&& BitVec.ofInt IntKind.u64.bits 6148914691236517205).toNat:Int)))):Int).fdiv (2 ^ (min (2:Int).toNat IntKind.u64.bits))) &&& BitVec.ofInt IntKind.u64.bits 3689348814741910323).toNat:Int))) + (IntKind.u64.wrap (((BitVec.ofInt IntKind.u64.bits (IntKind.u64.wrap ((IntKind.u64.wrap (((BitVec.ofInt IntKind.u64.bits ((a0:Int).fdiv (2 ^ (min (1:Int).toNat IntKind.u64.bits))) &&& BitVec.ofInt IntKind.u64.bits 6148914691236517205).toNat:Int))) + (IntKind.u64.wrap (((BitVec.ofInt IntKind.u64.bits a0 &&& BitVec.ofInt IntKind.u64.bits 6148914691236517205).toNat:Int))))) &&& BitVec.ofInt IntKind.u64.bits 3689348814741910323).toNat:Int))))))) &&& BitVec.ofInt IntKind.u64.bits 1085102592571150095).toNat:Int)):Int).fdiv (2 ^ (min (8:Int).toNat IntKind.u64.bits))))) + ((IntKind.u64.wrap ((IntKind.u64.wrap (((BitVec.ofInt IntKind.u64.bits (IntKind.u64.wrap (((IntKind.u64.wrap ((IntKind.u64.wrap (((BitVec.ofInt IntKind.u64.bits ((IntKind.u64.wrap ((IntKind.u64.wrap (((BitVec.ofInt IntKind.u64.bits ((a0:Int).fdiv (2 ^ (min (1:Int).toNat IntKind.u64.bits))) &&& BitVec.ofInt IntKind.u64.bits 6148914691236517205).toNat:Int))) + (IntKind.u64.wrap (((BitVec.ofInt IntKind.u64.bits a0 &&& BitVec.ofInt IntKind.u64.bits 6148914691236517205).toNat:Int)))):Int).fdiv (2 ^ (min (2:Int).toNat IntKind.u64.bits))) &&& BitVec.ofInt IntKind.u64.bits 3689348814741910323).toNat:Int))) + (IntKind.u64.wrap (((BitVec.ofInt IntKind.u64.bits (IntKind.u64.wrap ((IntKind.u64.wrap (((BitVec.ofInt IntKind.u64.bits ((a0:Int).fdiv (2 ^ (min (1:Int).toNat IntKind.u64.bits))) &&& BitVec.ofInt IntKind.u64.bits 6148914691236517205).toNat:Int))) + (IntKind.u64.wrap (((BitVec.ofInt IntKind.u64.bits a0 &&& BitVec.ofInt IntKind.u64.bits 6148914691236517205).toNat:Int))))) &&& BitVec.ofInt IntKind.u64.bits 3689348814741910323).toNat:Int)))):Int).fdiv (2 ^ (min (4:Int).toNat IntKind.u64.bits))) + (IntKind.u64.wrap ((IntKind.u64.wrap (((BitVec.ofInt IntKind.u64.bits ((IntKind.u64.wrap ((IntKind.u64.wrap (((BitVec.ofInt IntKind.u64.bits ((a0:Int).fdiv (2 ^ (min (1:Int).toNat IntKind.u64.bits))) &&& BitVec.ofInt IntKind.u64.bits 6148914691236517205).toNat:Int))) + (IntKind.u64.wrap (((BitVec.ofInt IntKind.u64.bits a0 &&& BitVec.ofInt IntKind.u64.bits 6148914691236517205).toNat:Int)))):Int).fdiv (2 ^ (min (2:Int).toNat IntKind.u64.bits))) &&& BitVec.ofInt IntKind.u64.bits 3689348814741910323).toNat:Int))) + (IntKind.u64.wrap (((BitVec.ofInt IntKind.u64.bits (IntKind.u64.wrap ((IntKind.u64.wrap (((BitVec.ofInt IntKind.u64.bits ((a0:Int).fdiv (2 ^ (min (1:Int).toNat IntKind.u64.bits))) &&& BitVec.ofInt IntKind.u64.bits 6148914691236517205).toNat:Int))) + (IntKind.u64.wrap (((BitVec.ofInt IntKind.u64.bits a0 &&& BitVec.ofInt IntKind.u64.bits 6148914691236517205).toNat:Int))))) &&& BitVec.ofInt IntKind.u64.bits 3689348814741910323).toNat:Int))))))) &&& BitVec.ofInt IntKind.u64.bits 1085102592571150095).toNat:Int))) + ((IntKind.u64.wrap (((BitVec.ofInt IntKind.u64.bits (IntKind.u64.wrap (((IntKind.u64.wrap ((IntKind.u64.wrap (((BitVec.ofInt IntKind.u64.bits ((IntKind.u64.wrap ((IntKind.u64.wrap (((BitVec.ofInt IntKind.u64.bits ((a0:Int).fdiv (2 ^ (min (1:Int).toNat IntKind.u64.bits))) &&& BitVec.ofInt IntKind.u64.bits 6148914691236517205).toNat:Int))) + (IntKind.u64.wrap (((BitVec.ofInt IntKind.u64.bits a0 &&& BitVec.ofInt IntKind.u64.bits 6148914691236517205).toNat:Int)))):Int).fdiv (2 ^ (min (2:Int).toNat IntKind.u64.bits))) &&& BitVec.ofInt IntKind.u64.bits 3689348814741910323).toNat:Int))) + (IntKind.u64.wrap (((BitVec.ofInt IntKind.u64.bits (IntKind.u64.wrap ((IntKind.u64.wrap (((BitVec.ofInt IntKind.u64.bits ((a0:Int).fdiv (2 ^ (min (1:Int).toNat IntKind.u64.bits))) &&& BitVec.ofInt IntKind.u64.bits 6148914691236517205).toNat:Int))) + (IntKind.u64.wrap (((BitVec.ofInt IntKind.u64.bits a0 &&& BitVec.ofInt IntKind.u64.bits 6148914691236517205).toNat:Int))))) &&& BitVec.ofInt IntKind.u64.bits 3689348814741910323).toNat:Int)))):Int).fdiv (2 ^ (min (4:Int).toNat IntKind.u64.bits))) + (IntKind.u64.wrap ((IntKind.u64.wrap (((BitVec.ofInt IntKind.u64.bits ((IntKind.u64.wrap ((IntKind.u64.wrap (((BitVec.ofInt IntKind.u64.bits ((a0:Int).fdiv (2 ^ (min (1:Int).toNat IntKind.u64.bits))) &&& BitVec.ofInt IntKind.u64.bits 6148914691236517205).toNat:Int))) + (IntKind.u64.wrap (((BitVec.ofInt IntKind.u64.bits a0 &&& BitVec.ofInt IntKind.u64.bits 6148914691236517205).toNat:Int)))):Int).fdiv (2 ^ (min (2:Int).toNat IntKind.u64.bits))) &&& BitVec.ofInt IntKind.u64.bits 3689348814741910323).toNat:Int))) + (IntKind.u64.wrap (((BitVec.ofInt IntKind.u64.bits (IntKind.u64.wrap ((IntKind.u64.wrap (((BitVec.ofInt IntKind.u64.bits ((a0:Int).fdiv (2 ^ (min (1:Int).toNat IntKind.u64.bits))) &&& BitVec.ofInt IntKind.u64.bits 6148914691236517205).toNat:Int))) + (IntKind.u64.wrap (((BitVec.ofInt IntKind.u64.bits a0 &&& BitVec.ofInt IntKind.u64.bits 6148914691236517205).toNat:Int))))) &&& BitVec.ofInt IntKind.u64.bits 3689348814741910323).toNat:Int))))))) &&& BitVec.ofInt IntKind.u64.bits 1085102592571150095).toNat:Int)):Int).fdiv (2 ^ (min (8:Int).toNat IntKind.u64.bits)))):Int).fdiv (2 ^ (min (16:Int).toNat IntKind.u64.bits))))) + ((IntKind.u64.wrap ((IntKind.u64.wrap ((IntKind.u64.wrap (((BitVec.ofInt IntKind.u64.bits (IntKind.u64.wrap (((IntKind.u64.wrap ((IntKind.u64.wrap (((BitVec.ofInt IntKind.u64.bits ((IntKind.u64.wrap ((IntKind.u64.wrap (((BitVec.ofInt IntKind.u64.bits ((a0:Int).fdiv (2 ^ (min (1:Int).toNat IntKind.u64.bits))) &&& BitVec.ofInt IntKind.u64.bits 6148914691236517205).toNat:Int))) + (IntKind.u64.wrap (((BitVec.ofInt IntKind.u64.bits a0 &&& BitVec.ofInt IntKind.u64.bits 6148914691236517205).toNat:Int)))):Int).fdiv (2 ^ (min (2:Int).toNat IntKind.u64.bits))) &&& BitVec.ofInt IntKind.u64.bits 3689348814741910323).toNat:Int))) + (IntKind.u64.wrap (((BitVec.ofInt IntKind.u64.bits (IntKind.u64.wrap ((IntKind.u64.wrap (((BitVec.ofInt IntKind.u64.bits ((a0:Int).fdiv (2 ^ (min (1:Int).toNat IntKind.u64.bits))) &&& BitVec.ofInt IntKind.u64.bits 6148914691236517205).toNat:Int))) + (IntKind.u64.wrap (((BitVec.ofInt IntKind.u64.bits a0 &&& BitVec.ofInt IntKind.u64.bits 6148914691236517205).toNat:Int))))) &&& BitVec.ofInt IntKind.u64.bits 3689348814741910323).toNat:Int)))):Int).fdiv (2 ^ (min (4:Int).toNat IntKind.u64.bits))) + (IntKind.u64.wrap ((IntKind.u64.wrap (((BitVec.ofInt IntKind.u64.bits ((IntKind.u64.wrap ((IntKind.u64.wrap (((BitVec.ofInt IntKind.u64.bits ((a0:Int).fdiv (2 ^ (min (1:Int).toNat IntKind.u64.bits))) &&& BitVec.ofInt IntKind.u64.bits 6148914691236517205).toNat:Int))) + (IntKind.u64.wrap (((BitVec.ofInt IntKind.u64.bits a0 &&& BitVec.ofInt IntKind.u64.bits 6148914691236517205).toNat:Int)))):Int).fdiv (2 ^ (min (2:Int).toNat IntKind.u64.bits))) &&& BitVec.ofInt IntKind.u64.bits 3689348814741910323).toNat:Int))) + (IntKind.u64.wrap (((BitVec.ofInt IntKind.u64.bits (IntKind.u64.wrap ((IntKind.u64.wrap (((BitVec.ofInt IntKind.u64.bits ((a0:Int).fdiv (2 ^ (min (1:Int).toNat IntKind.u64.bits))) &&& BitVec.ofInt IntKind.u64.bits 6148914691236517205).toNat:Int))) + (IntKind.u64.wrap (((BitVec.ofInt IntKind.u64.bits a0 &&& BitVec.ofInt IntKind.u64.bits 6148914691236517205).toNat:Int))))) &&& BitVec.ofInt IntKind.u64.bits 3689348814741910323).toNat:Int))))))) &&& BitVec.ofInt IntKind.u64.bits 1085102592571150095).toNat:Int))) + ((IntKind.u64.wrap (((BitVec.ofInt IntKind.u64.bits (IntKind.u64.wrap (((IntKind.u64.wrap ((IntKind.u64.wrap (((BitVec.ofInt IntKind.u64.bits ((IntKind.u64.wrap ((IntKind.u64.wrap (((BitVec.ofInt IntKind.u64.bits ((a0:Int).fdiv (2 ^ (min (1:Int).toNat IntKind.u64.bits))) &&& BitVec.ofInt IntKind.u64.bits 6148914691236517205).toNat:Int))) + (IntKind.u64.wrap (((BitVec.ofInt IntKind.u64.bits a0 &&& BitVec.ofInt IntKind.u64.bits 6148914691236517205).toNat:Int)))):Int).fdiv (2 ^ (min (2:Int).toNat IntKind.u64.bits))) &&& BitVec.ofInt IntKind.u64.bits 3689348814741910323).toNat:Int))) + (IntKind.u64.wrap (((BitVec.ofInt IntKind.u64.bits (IntKind.u64.wrap ((IntKind.u64.wrap (((BitVec.ofInt IntKind.u64.bits ((a0:Int).fdiv (2 ^ (min (1:Int).toNat IntKind.u64.bits))) &&& BitVec.ofInt IntKind.u64.bits 6148914691236517205).toNat:Int))) + (IntKind.u64.wrap (((BitVec.ofInt IntKind.u64.bits a0 &&& BitVec.ofInt IntKind.u64.bits 6148914691236517205).toNat:Int))))) &&& BitVec.ofInt IntKind.u64.bits 3689348814741910323).toNat:Int)))):Int).fdiv (2 ^ (min (4:Int).toNat IntKind.u64.bits))) + (IntKind.u64.wrap ((IntKind.u64.wrap (((BitVec.ofInt IntKind.u64.bits ((IntKind.u64.wrap ((IntKind.u64.wrap (((BitVec.ofInt IntKind.u64.bits ((a0:Int).fdiv (2 ^ (min (1:Int).toNat IntKind.u64.bits))) &&& BitVec.ofInt IntKind.u64.bits 6148914691236517205).toNat:Int))) + (IntKind.u64.wrap (((BitVec.ofInt IntKind.u64.bits a0 &&& BitVec.ofInt IntKind.u64.bits 6148914691236517205).toNat:Int)))):Int).fdiv (2 ^ (min (2:Int).toNat IntKind.u64.bits))) &&& BitVec.ofInt IntKind.u64.bits 3689348814741910323).toNat:Int))) + (IntKind.u64.wrap (((BitVec.ofInt IntKind.u64.bits (IntKind.u64.wrap ((IntKind.u64.wrap (((BitVec.ofInt IntKind.u64.bits ((a0:Int).fdiv (2 ^ (min (1:Int).toNat IntKind.u64.bits))) &&& BitVec.ofInt IntKind.u64.bits 6148914691236517205).toNat:Int))) + (IntKind.u64.wrap (((BitVec.ofInt IntKind.u64.bits a0 &&& BitVec.ofInt IntKind.u64.bits 6148914691236517205).toNat:Int))))) &&& BitVec.ofInt IntKind.u64.bits 3689348814741910323).toNat:Int))))))) &&& BitVec.ofInt IntKind.u64.bits 1085102592571150095).toNat:Int)):Int).fdiv (2 ^ (min (8:Int).toNat IntKind.u64.bits))))) + ((IntKind.u64.wrap ((IntKind.u64.wrap (((BitVec.ofInt IntKind.u64.bits (IntKind.u64.wrap (((IntKind.u64.wrap ((IntKind.u64.wrap (((BitVec.ofInt IntKind.u64.bits ((IntKind.u64.wrap ((IntKind.u64.wrap (((BitVec.ofInt IntKind.u64.bits ((a0:Int).fdiv (2 ^ (min (1:Int).toNat IntKind.u64.bits))) &&& BitVec.ofInt IntKind.u64.bits 6148914691236517205).toNat:Int))) + (IntKind.u64.wrap (((BitVec.ofInt IntKind.u64.bits a0 &&& BitVec.ofInt IntKind.u64.bits 6148914691236517205).toNat:Int)))):Int).fdiv (2 ^ (min (2:Int).toNat IntKind.u64.bits))) &&& BitVec.ofInt IntKind.u64.bits 3689348814741910323).toNat:Int))) + (IntKind.u64.wrap (((BitVec.ofInt IntKind.u64.bits (IntKind.u64.wrap ((IntKind.u64.wrap (((BitVec.ofInt IntKind.u64.bits ((a0:Int).fdiv (2 ^ (min (1:Int).toNat IntKind.u64.bits))) &&& BitVec.ofInt IntKind.u64.bits 6148914691236517205).toNat:Int))) + (IntKind.u64.wrap (((BitVec.ofInt IntKind.u64.bits a0 &&& BitVec.ofInt IntKind.u64.bits 6148914691236517205).toNat:Int))))) &&& BitVec.ofInt IntKind.u64.bits 3689348814741910323).toNat:Int)))):Int).fdiv (2 ^ (min (4:Int).toNat IntKind.u64.bits))) + (IntKind.u64.wrap ((IntKind.u64.wrap (((BitVec.ofInt IntKind.u64.bits ((IntKind.u64.wrap ((IntKind.u64.wrap (((BitVec.ofInt IntKind.u64.bits ((a0:Int).fdiv (2 ^ (min (1:Int).toNat IntKind.u64.bits))) &&& BitVec.ofInt IntKind.u64.bits 6148914691236517205).toNat:Int))) + (IntKind.u64.wrap (((BitVec.ofInt IntKind.u64.bits a0 &&& BitVec.ofInt IntKind.u64.bits 6148914691236517205).toNat:Int)))):Int).fdiv (2 ^ (min (2:Int).toNat IntKind.u64.bits))) &&& BitVec.ofInt IntKind.u64.bits 3689348814741910323).toNat:Int))) + (IntKind.u64.wrap (((BitVec.ofInt IntKind.u64.bits (IntKind.u64.wrap ((IntKind.u64.wrap (((BitVec.ofInt IntKind.u64.bits ((a0:Int).fdiv (2 ^ (min (1:Int).toNat IntKind.u64.bits))) &&& BitVec.ofInt IntKind.u64.bits 6148914691236517205).toNat:Int))) + (IntKind.u64.wrap (((BitVec.ofInt IntKind.u64.bits a0 &&& BitVec.ofInt IntKind.u64.bits 6148914691236517205).toNat:Int))))) &&& BitVec.ofInt IntKind.u64.bits 3689348814741910323).toNat:Int))))))) &&& BitVec.ofInt IntKind.u64.bits 1085102592571150095).toNat:Int))) + ((IntKind.u64.wrap (((BitVec.ofInt IntKind.u64.bits (IntKind.u64.wrap (((IntKind.u64.wrap ((IntKind.u64.wrap (((BitVec.ofInt IntKind.u64.bits ((IntKind.u64.wrap ((IntKind.u64.wrap (((BitVec.ofInt IntKind.u64.bits ((a0:Int).fdiv (2 ^ (min (1:Int).toNat IntKind.u64.bits))) &&& BitVec.ofInt IntKind.u64.bits 6148914691236517205).toNat:Int))) + (IntKind.u64.wrap (((BitVec.ofInt IntKind.u64.bits a0 &&& BitVec.ofInt IntKind.u64.bits 6148914691236517205).toNat:Int)))):Int).fdiv (2 ^ (min (2:Int).toNat IntKind.u64.bits))) &&& BitVec.ofInt IntKind.u64.bits 3689348814741910323).toNat:Int))) + (IntKind.u64.wrap (((BitVec.ofInt IntKind.u64.bits (IntKind.u64.wrap ((IntKind.u64.wrap (((BitVec.ofInt IntKind.u64.bits ((a0:Int).fdiv (2 ^ (min (1:Int).toNat IntKind.u64.bits))) &&& BitVec.ofInt IntKind.u64.bits 6148914691236517205).toNat:Int))) + (IntKind.u64.wrap (((BitVec.ofInt IntKind.u64.bits a0 &&& BitVec.ofInt IntKind.u64.bits 6148914691236517205).toNat:Int))))) &&& BitVec.ofInt IntKind.u64.bits 3689348814741910323).toNat:Int)))):Int).fdiv (2 ^ (min (4:Int).toNat IntKind.u64.bits))) + (IntKind.u64.wrap ((IntKind.u64.wrap (((BitVec.ofInt IntKind.u64.bits ((IntKind.u64.wrap ((IntKind.u64.wrap (((BitVec.ofInt IntKind.u64.bits ((a0:Int).fdiv (2 ^ (min (1:Int).toNat IntKind.u64.bits))) &&& BitVec.ofInt IntKind.u64.bits 6148914691236517205).toNat:Int))) + (IntKind.u64.wrap (((BitVec.ofInt IntKind.u64.bits a0 &&& BitVec.ofInt IntKind.u64.bits 6148914691236517205).toNat:Int)))):Int).fdiv (2 ^ (min (2:Int).toNat IntKind.u64.bits))) &&& BitVec.ofInt IntKind.u64.bits 3689348814741910323).toNat:Int))) + (IntKind.u64.wrap (((BitVec.ofInt IntKind.u64.bits (IntKind.u64.wrap ((IntKind.u64.wrap (((BitVec.ofInt IntKind.u64.bits ((a0:Int).fdiv (2 ^ (min (1:Int).toNat IntKind.u64.bits))) &&& BitVec.ofInt IntKind.u64.bits 6148914691236517205).toNat:Int))) + (IntKind.u64.wrap (((BitVec.ofInt IntKind.u64.bits a0 &&& BitVec.ofInt IntKind.u64.bits 6148914691236517205).toNat:Int))))) &&& BitVec.ofInt IntKind.u64.bits 3689348814741910323).toNat:Int))))))) &&& BitVec.ofInt IntKind.u64.bits 1085102592571150095).toNat:Int)):Int).fdiv (2 ^ (min (8:Int).toNat IntKind.u64.bits)))):Int).fdiv (2 ^ (min (16:Int).toNat IntKind.u64.bits)))):Int).fdiv (2 ^ (min (32:Int).toNat IntKind.u64.bits)))))) &&& BitVec.ofInt IntKind.i64.bits 127).toNat:Int))),H)
theorem f_eq (rec:Rec) (k:Nat):∀ a0 H,f rec k a0 H=ex PP (orc math_bits_OnesCount64.id) rec k body (St.of 35 [(0,.int .u64 a0)] []) H (K0 PP Go.Proofs.Try.f106):=by
 intros a0 H
 unfold f
 kernel_rfl
theorem call (k:Nat):∀ a0 H,callF PP orc (k + 1) math_bits_OnesCount64.id [.int .u64 a0] H=f (callF PP orc k) k a0 H:=by
 intros a0 H
 rw [callF_at (fn:=Go.Proofs.Try.f106) (c:=body) Go.Proofs.Try.func106 (by kernel_rfl) (Nat.le_of_ble_eq_true (by kernel_rfl)),f_eq]
 kernel_rfl
end math_bits_OnesCount64
namespace impl_onlyValue
noncomputable def body:Code:=(Go.Proofs.Try.f85).body.getD .skip
abbrev o:=orc impl_onlyValue.id
noncomputable def l0 (rec:Rec) (k:Nat):Nat→Int→Int→Hp→An
 | 0,_,_,_=>none
 | n + 1,x0,x3,H=>bif decide (x3 ≤ 4) then if (x3:Int) < 0 then none else bif x0 == (IntKind.i64.wrap (1 * 2 ^ (min (x3:Int).toNat IntKind.i64.bits))) then some (.int .i64 x3,H) else (l0 rec k n) x0 (IntKind.i64.wrap (x3 + 1)) H else some (.int .i64 0,H)
noncomputable def f (rec:Rec) (k:Nat) (a0:Int) (H:Hp):An:=l0 rec k k a0 1 H
theorem l0_eq (rec:Rec) (k:Nat):∀ n x0 x3 H,l0 rec k n x0 x3 H=iter (o.at (lbody (sub body [1,0,1,0]))) (ex PP o rec k (lbody (sub body [1,0,1,0]))) (kAt PP o rec k body [1,0,1,0] [] (K0 PP Go.Proofs.Try.f85)) n (St.of 13 [(0,.int .i64 x0),(3,.int .i64 x3)] []) H:=by
 intro n
 induction n with
 | zero=>intros; rfl
 | succ n ih=>
  intros x0 x3 H
  simp only [l0,ih,-eq_self]
  kernel_rfl
theorem f_eq (rec:Rec) (k:Nat):∀ a0 H,f rec k a0 H=ex PP o rec k body (St.of 13 [(0,.int .i64 a0)] []) H (K0 PP Go.Proofs.Try.f85):=by
 intros a0 H
 unfold f
 try simp only [l0_eq rec k,-eq_self]
 kernel_rfl
theorem call (k:Nat):∀ a0 H,callF PP orc (k + 1) impl_onlyValue.id [.int .i64 a0] H=f (callF PP orc k) k a0 H:=by
 intros a0 H
 rw [callF_at (fn:=Go.Proofs.Try.f85) (c:=body) Go.Proofs.Try.func85 (by kernel_rfl) (Nat.le_of_ble_eq_true (by kernel_rfl)),f_eq]
 kernel_rfl
end impl_onlyValue
namespace impl_MasksCount
noncomputable def body:Code:=(Go.Proofs.Try.f38).body.getD .skip
abbrev o:=orc impl_MasksCount.id
noncomputable def j1 (rec:Rec) (k:Nat) (x5:Int) (H:Hp):An:=some (.int .i64 x5,H)
noncomputable def l0 (rec:Rec) (k:Nat):Nat→Int→Sl→Int→Int→Hp→An
 | 0,_,_,_,_,_=>none
 | n + 1,x5,x12,x13,x14,H=>bif decide (x14 < x13) then bif decide (0 ≤ (x14:Int)) && decide ((x14:Int) < x12.len) then (ldI .i64 H x12.blk (x12.off + (x14:Int).toNat * 1)).bind fun n3=>(rec math_bits_OnesCount.id [.int .u64 (IntKind.u64.wrap n3)] H).bind fun r4=>(r4.1.toI .i64).bind fun n5=>(l0 rec k n) (IntKind.i64.wrap (x5 + n5)) x12 x13 (IntKind.i64.wrap (x14 + 1)) r4.2 else none else j1 rec k x5 H
noncomputable def f (rec:Rec) (k:Nat) (a0:Sl) (a1:Int) (H:Hp):An:=(rec impl_MasksValid.id [.sl 1 a0,.int .i64 a1] H).bind fun r1=>r1.1.toB.bind fun b2=>bif !b2 then some (.int .i64 (-1),r1.2) else l0 rec k k 0 a0 (a0.len:Int) 0 r1.2
theorem j1_eq (rec:Rec) (k:Nat):∀ x5 H,j1 rec k x5 H=ex PP o rec k (sub body [1,1,1,1]) (St.of 25 [(5,.int .i64 x5)] []) H (kAt PP o rec k body [1,1,1,1] [] (K0 PP Go.Proofs.Try.f38)):=by
 intros x5 H
 unfold j1
 kernel_rfl
theorem l0_eq (rec:Rec) (k:Nat):∀ n x5 x12 x13 x14 H,l0 rec k n x5 x12 x13 x14 H=iter (o.at (lbody (sub body [1,1,1,0,1,0]))) (ex PP o rec k (lbody (sub body [1,1,1,0,1,0]))) (kAt PP o rec k body [1,1,1,0,1,0] [] (K0 PP Go.Proofs.Try.f38)) n (St.of 25 [(5,.int .i64 x5),(12,.sl 1 x12),(13,.int .i64 x13),(14,.int .i64 x14)] []) H:=by
 intro n
 induction n with
 | zero=>intros; rfl
 | succ n ih=>
  intros x5 x12 x13 x14 H
  simp only [l0,j1_eq rec k,ih,-eq_self]
  kernel_rfl
theorem f_eq (rec:Rec) (k:Nat):∀ a0 a1 H,f rec k a0 a1 H=ex PP o rec k body (St.of 25 [(0,.sl 1 a0),(1,.int .i64 a1)] []) H (K0 PP Go.Proofs.Try.f38):=by
 intros a0 a1 H
 unfold f
 try simp only [l0_eq rec k,-eq_self]
 kernel_rfl
theorem call (k:Nat):∀ a0 a1 H,callF PP orc (k + 1) impl_MasksCount.id [.sl 1 a0,.int .i64 a1] H=f (callF PP orc k) k a0 a1 H:=by
 intros a0 a1 H
 rw [callF_at (fn:=Go.Proofs.Try.f38) (c:=body) Go.Proofs.Try.func38 (by kernel_rfl) (Nat.le_of_ble_eq_true (by kernel_rfl)),f_eq]
 kernel_rfl
end impl_MasksCount
namespace spec_MasksCount
noncomputable def body:Code:=(Go.Proofs.Try.f77).body.getD .skip
abbrev o:=orc spec_MasksCount.id
noncomputable def j1 (rec:Rec) (k:Nat) (x5:Int) (H:Hp):An:=some (.int .i64 x5,H)
noncomputable def l0 (rec:Rec) (k:Nat):Nat→Sl→Int→Int→Hp→An
 | 0,_,_,_,_=>none
 | n + 1,x0,x5,x6,H=>bif decide (x6 < (x0.len:Int)) then bif decide (0 ≤ (x6:Int)) && decide ((x6:Int) < x0.len) then (ldI .i64 H x0.blk (x0.off + (x6:Int).toNat * 1)).bind fun n3=>(rec spec_MaskValues.id [.int .i64 n3] H).bind fun r4=>(r4.1.toS 1).bind fun s5=>(l0 rec k n) x0 (IntKind.i64.wrap (x5 + (s5.len:Int))) (IntKind.i64.wrap (x6 + 1)) r4.2 else none else j1 rec k x5 H
noncomputable def f (rec:Rec) (k:Nat) (a0:Sl) (a1:Int) (H:Hp):An:=(rec spec_MasksValid.id [.sl 1 a0,.int .i64 a1] H).bind fun r1=>r1.1.toB.bind fun b2=>bif !b2 then some (.int .i64 (-1),r1.2) else l0 rec k k a0 0 0 r1.2
theorem j1_eq (rec:Rec) (k:Nat):∀ x5 H,j1 rec k x5 H=ex PP o rec k (sub body [1,1,1,1]) (St.of 26 [(5,.int .i64 x5)] []) H (kAt PP o rec k body [1,1,1,1] [] (K0 PP Go.Proofs.Try.f77)):=by
 intros x5 H
 unfold j1
 kernel_rfl
theorem l0_eq (rec:Rec) (k:Nat):∀ n x0 x5 x6 H,l0 rec k n x0 x5 x6 H=iter (o.at (lbody (sub body [1,1,1,0,1,0]))) (ex PP o rec k (lbody (sub body [1,1,1,0,1,0]))) (kAt PP o rec k body [1,1,1,0,1,0] [] (K0 PP Go.Proofs.Try.f77)) n (St.of 26 [(0,.sl 1 x0),(5,.int .i64 x5),(6,.int .i64 x6)] []) H:=by
 intro n
 induction n with
 | zero=>intros; rfl
 | succ n ih=>
  intros x0 x5 x6 H
  simp only [l0,j1_eq rec k,ih,-eq_self]
  kernel_rfl
theorem f_eq (rec:Rec) (k:Nat):∀ a0 a1 H,f rec k a0 a1 H=ex PP o rec k body (St.of 26 [(0,.sl 1 a0),(1,.int .i64 a1)] []) H (K0 PP Go.Proofs.Try.f77):=by
 intros a0 a1 H
 unfold f
 try simp only [l0_eq rec k,-eq_self]
 kernel_rfl
theorem call (k:Nat):∀ a0 a1 H,callF PP orc (k + 1) spec_MasksCount.id [.sl 1 a0,.int .i64 a1] H=f (callF PP orc k) k a0 a1 H:=by
 intros a0 a1 H
 rw [callF_at (fn:=Go.Proofs.Try.f77) (c:=body) Go.Proofs.Try.func77 (by kernel_rfl) (Nat.le_of_ble_eq_true (by kernel_rfl)),f_eq]
 kernel_rfl
end spec_MasksCount
namespace impl_MasksGrid
noncomputable def body:Code:=(Go.Proofs.Try.f48).body.getD .skip
abbrev o:=orc impl_MasksGrid.id
noncomputable def j1 (rec:Rec) (k:Nat) (x5:Sl) (H:Hp):An:=some (.sl 1 x5,H)
noncomputable def l0 (rec:Rec) (k:Nat):Nat→Sl→Sl→Int→Int→Hp→An
 | 0,_,_,_,_,_=>none
 | n + 1,x5,x15,x16,x17,H=>bif decide (x17 < x16) then bif decide (0 ≤ (x17:Int)) && decide ((x17:Int) < x15.len) then (ldI .i64 H x15.blk (x15.off + (x17:Int).toNat * 1)).bind fun n3=>(rec impl_onlyValue.id [.int .i64 n3] H).bind fun r4=>(r4.1.toI .i64).bind fun n5=>bif decide (0 ≤ (x17:Int)) && decide ((x17:Int) < x5.len) then (r4.2.sto x5.blk (x5.off + (x17:Int).toNat * 1) [.int .i64 n5]).bind fun H6=>(l0 rec k n) x5 x15 x16 (IntKind.i64.wrap (x17 + 1)) H6 else none else none else j1 rec k x5 H
noncomputable def f (rec:Rec) (k:Nat) (a0:Sl) (a1:Int) (H:Hp):An:=(rec impl_MasksValid.id [.sl 1 a0,.int .i64 a1] H).bind fun r1=>r1.1.toB.bind fun b2=>bif !b2 then some (.sl 1 Sl.none,r1.2) else if 0 ≤ ((a0.len:Int):Int)∧((a0.len:Int):Int) ≤ (a0.len:Int)∧((a0.len:Int):Int) ≤ 1073741824∧8 ≤ 8192∧0 < 1 then l0 rec k k (Sl.mk false r1.2.length 0 ((a0.len:Int):Int).toNat) a0 (a0.len:Int) 0 (r1.2 ++ [some (Blk.mk false (List.replicate ((a0.len:Int):Int).toNat [.int .i64 0]).flatten)]) else none
theorem j1_eq (rec:Rec) (k:Nat):∀ x5 H,j1 rec k x5 H=ex PP o rec k (sub body [1,1,1,1]) (St.of 29 [(5,.sl 1 x5)] []) H (kAt PP o rec k body [1,1,1,1] [] (K0 PP Go.Proofs.Try.f48)):=by
 intros x5 H
 unfold j1
 kernel_rfl
theorem l0_eq (rec:Rec) (k:Nat):∀ n x5 x15 x16 x17 H,l0 rec k n x5 x15 x16 x17 H=iter (o.at (lbody (sub body [1,1,1,0,1,0]))) (ex PP o rec k (lbody (sub body [1,1,1,0,1,0]))) (kAt PP o rec k body [1,1,1,0,1,0] [] (K0 PP Go.Proofs.Try.f48)) n (St.of 29 [(5,.sl 1 x5),(15,.sl 1 x15),(16,.int .i64 x16),(17,.int .i64 x17)] []) H:=by
 intro n
 induction n with
 | zero=>intros; rfl
 | succ n ih=>
  intros x5 x15 x16 x17 H
  simp only [l0,j1_eq rec k,ih,-eq_self]
  kernel_rfl
theorem f_eq (rec:Rec) (k:Nat):∀ a0 a1 H,f rec k a0 a1 H=ex PP o rec k body (St.of 29 [(0,.sl 1 a0),(1,.int .i64 a1)] []) H (K0 PP Go.Proofs.Try.f48):=by
 intros a0 a1 H
 unfold f
 try simp only [l0_eq rec k,-eq_self]
 kernel_rfl
theorem call (k:Nat):∀ a0 a1 H,callF PP orc (k + 1) impl_MasksGrid.id [.sl 1 a0,.int .i64 a1] H=f (callF PP orc k) k a0 a1 H:=by
 intros a0 a1 H
 rw [callF_at (fn:=Go.Proofs.Try.f48) (c:=body) Go.Proofs.Try.func48 (by kernel_rfl) (Nat.le_of_ble_eq_true (by kernel_rfl)),f_eq]
 kernel_rfl
end impl_MasksGrid
end Go.Proofs.Ytchliocobgkmbaa.Rp
