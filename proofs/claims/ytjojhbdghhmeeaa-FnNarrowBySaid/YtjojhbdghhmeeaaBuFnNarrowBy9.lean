/- Texts for the row of the law FnNarrowBy, part 9: the plain machine, the program's functions on it, what they come to. No conditions. -/
import Derived.Test.YtjojhbdghhmeeaaAb
import Derived.Test.YtjojhbdghhmeeaaOr
set_option linter.unusedVariables false
set_option linter.unusedSimpArgs false
set_option maxRecDepth 100000
namespace Go.Proofs.Ytjojhbdghhmeeaa.Rp
open Go Go.Proofs.Ytjojhbdghhmeeaa.Ab
namespace impl_MasksValid
noncomputable def body:Code:=(Go.Proofs.Try.f23).body.getD .skip
abbrev o:=orc impl_MasksValid.id
abbrev TL2:=Int→Sl→Int→Int→Hp→An
abbrev PhL2 (rec:Rec) (k n2:Nat) (L2:TL2):Prop:=∀ x1 x18 x19 x20 H,L2 x1 x18 x19 x20 H=iter (o.at (lbody (sub body [1,1,0,1,0]))) (ex PP o rec k (lbody (sub body [1,1,0,1,0]))) (kAt PP o rec k body [1,1,0,1,0] [] (K0 PP Go.Proofs.Try.f23)) n2 (St.of 34 [(1,.int .i64 x1),(18,.sl 1 x18),(19,.int .i64 x19),(20,.int .i64 x20)] []) H
noncomputable def j4 (rec:Rec) (k:Nat) (L2:TL2) (x1:Int) (x18:Sl) (x19:Int) (x20:Int) (H:Hp):An:=L2 x1 x18 x19 (IntKind.i64.wrap (x20 + 1)) H
noncomputable def j3 (rec:Rec) (k:Nat) (L2:TL2) (x1:Int) (x18:Sl) (x19:Int) (x20:Int) (x32:Bool) (H:Hp):An:=bif x32 then some (.bool false,H) else j4 rec k L2 x1 x18 x19 x20 H
noncomputable def l2 (rec:Rec) (k:Nat):Nat→Int→Sl→Int→Int→Hp→An
 | 0,_,_,_,_,_=>none
 | n + 1,x1,x18,x19,x20,H=>bif decide (x20 < x19) then bif decide (0 ≤ (x20:Int)) && decide ((x20:Int) < x18.len) then (ldI .i64 H x18.blk (x18.off + (x20:Int).toNat * 1)).bind fun n3=>bif decide (n3 < 0) then j3 rec k (l2 rec k n) x1 x18 x19 x20 true H else (rec impl_allValues.id [.int .i64 x1] H).bind fun r4=>(r4.1.toI .i64).bind fun n5=>j3 rec k (l2 rec k n) x1 x18 x19 x20 ((IntKind.i64.wrap (((BitVec.ofInt IntKind.i64.bits n3 &&& ~~~ (BitVec.ofInt IntKind.i64.bits n5)).toNat:Int))) != 0) r4.2 else none else some (.bool true,H)
noncomputable def j1 (rec:Rec) (k:Nat) (x0:Sl) (x1:Int) (H:Hp):An:=l2 rec k k x1 x0 (x0.len:Int) 0 H
noncomputable def j0 (rec:Rec) (k:Nat) (x0:Sl) (x1:Int) (x17:Bool) (H:Hp):An:=bif x17 then some (.bool false,H) else j1 rec k x0 x1 H
noncomputable def f (rec:Rec) (k:Nat) (a0:Sl) (a1:Int) (H:Hp):An:=(rec impl_sizeOk.id [.int .i64 a1] H).bind fun r1=>r1.1.toB.bind fun b2=>bif !b2 then j0 rec k a0 a1 true r1.2 else j0 rec k a0 a1 ((a0.len:Int) != (IntKind.i64.wrap (a1 * a1))) r1.2
theorem j4_eq (rec:Rec) (k:Nat) (n2:Nat) (L2:TL2) (hL2:PhL2 rec k n2 L2):∀ x1 x18 x19 x20 H,j4 rec k L2 x1 x18 x19 x20 H=ex PP o rec k (sub body [1,1,0,1,0,0,1,1,1]) (St.of 34 [(1,.int .i64 x1),(18,.sl 1 x18),(19,.int .i64 x19),(20,.int .i64 x20)] []) H (kAt PP o rec k body [1,1,0,1,0,0,1,1,1] [n2] (K0 PP Go.Proofs.Try.f23)):=by
 intros x1 x18 x19 x20 H
 unfold j4
 try simp only [hL2,-eq_self]
 kernel_rfl
theorem j3_eq (rec:Rec) (k:Nat) (n2:Nat) (L2:TL2) (hL2:PhL2 rec k n2 L2):∀ x1 x18 x19 x20 x32 H,j3 rec k L2 x1 x18 x19 x20 x32 H=ex PP o rec k (sub body [1,1,0,1,0,0,1,1,0,0,1,1]) (St.of 34 [(1,.int .i64 x1),(18,.sl 1 x18),(19,.int .i64 x19),(20,.int .i64 x20),(32,.bool x32)] []) H (kAt PP o rec k body [1,1,0,1,0,0,1,1,0,0,1,1] [n2] (K0 PP Go.Proofs.Try.f23)):=by
 intros x1 x18 x19 x20 x32 H
 unfold j3
 try simp only [hL2,j4_eq rec k n2 L2 hL2,-eq_self]
 kernel_rfl
theorem l2_eq (rec:Rec) (k:Nat):∀ n x1 x18 x19 x20 H,l2 rec k n x1 x18 x19 x20 H=iter (o.at (lbody (sub body [1,1,0,1,0]))) (ex PP o rec k (lbody (sub body [1,1,0,1,0]))) (kAt PP o rec k body [1,1,0,1,0] [] (K0 PP Go.Proofs.Try.f23)) n (St.of 34 [(1,.int .i64 x1),(18,.sl 1 x18),(19,.int .i64 x19),(20,.int .i64 x20)] []) H:=by
 intro n
 induction n with
 | zero=>intros; rfl
 | succ n ih=>
  intros x1 x18 x19 x20 H
  simp only [l2,j3_eq rec k n (l2 rec k n) (fun x1 x18 x19 x20 H=>ih x1 x18 x19 x20 H),ih,-eq_self]
  kernel_rfl
theorem j1_eq (rec:Rec) (k:Nat):∀ x0 x1 H,j1 rec k x0 x1 H=ex PP o rec k (sub body [1,1]) (St.of 34 [(0,.sl 1 x0),(1,.int .i64 x1)] []) H (kAt PP o rec k body [1,1] [] (K0 PP Go.Proofs.Try.f23)):=by
 intros x0 x1 H
 unfold j1
 try simp only [l2_eq rec k,-eq_self]
 kernel_rfl
theorem j0_eq (rec:Rec) (k:Nat):∀ x0 x1 x17 H,j0 rec k x0 x1 x17 H=ex PP o rec k (sub body [1,0,1]) (St.of 34 [(0,.sl 1 x0),(1,.int .i64 x1),(17,.bool x17)] []) H (kAt PP o rec k body [1,0,1] [] (K0 PP Go.Proofs.Try.f23)):=by
 intros x0 x1 x17 H
 unfold j0
 try simp only [j1_eq rec k,-eq_self]
 kernel_rfl
theorem f_eq (rec:Rec) (k:Nat):∀ a0 a1 H,f rec k a0 a1 H=ex PP o rec k body (St.of 34 [(0,.sl 1 a0),(1,.int .i64 a1)] []) H (K0 PP Go.Proofs.Try.f23):=by
 intros a0 a1 H
 unfold f
 try simp only [j0_eq rec k,-eq_self]
 kernel_rfl
theorem call (k:Nat):∀ a0 a1 H,callF PP orc (k + 1) impl_MasksValid.id [.sl 1 a0,.int .i64 a1] H=f (callF PP orc k) k a0 a1 H:=by
 intros a0 a1 H
 rw [callF_at (fn:=Go.Proofs.Try.f23) (c:=body) Go.Proofs.Try.func23 (by kernel_rfl) (Nat.le_of_ble_eq_true (by kernel_rfl)),f_eq]
 kernel_rfl
end impl_MasksValid
namespace math_bits_OnesCount
noncomputable def body:Code:=(Go.Proofs.Try.f94).body.getD .skip
noncomputable def f (rec:Rec) (k:Nat) (a0:Int) (H:Hp):An:=(rec math_bits_OnesCount64.id [.int .u64 a0] H).bind fun r1=>(r1.1.toI .i64).bind fun n2=>some (.int .i64 n2,r1.2)
theorem f_eq (rec:Rec) (k:Nat):∀ a0 H,f rec k a0 H=ex PP (orc math_bits_OnesCount.id) rec k body (St.of 8 [(0,.int .u64 a0)] []) H (K0 PP Go.Proofs.Try.f94):=by
 intros a0 H
 unfold f
 kernel_rfl
theorem call (k:Nat):∀ a0 H,callF PP orc (k + 1) math_bits_OnesCount.id [.int .u64 a0] H=f (callF PP orc k) k a0 H:=by
 intros a0 H
 rw [callF_at (fn:=Go.Proofs.Try.f94) (c:=body) Go.Proofs.Try.func94 (by kernel_rfl) (Nat.le_of_ble_eq_true (by kernel_rfl)),f_eq]
 kernel_rfl
end math_bits_OnesCount
namespace math_bits_OnesCount64
noncomputable def body:Code:=(Go.Proofs.Try.f118).body.getD .skip
noncomputable def f (rec:Rec) (k:Nat) (a0:Int) (H:Hp):An:=some (.int .i64 (IntKind.i64.wrap (((BitVec.ofInt IntKind.i64.bits (IntKind.i64.wrap (IntKind.u64.wrap ((IntKind.u64.wrap ((IntKind.u64.wrap ((IntKind.u64.wrap (((BitVec.ofInt IntKind.u64.bits (IntKind.u64.wrap (((IntKind.u64.wrap ((IntKind.u64.wrap (((BitVec.ofInt IntKind.u64.bits ((IntKind.u64.wrap ((IntKind.u64.wrap (((BitVec.ofInt IntKind.u64.bits ((a0:Int).fdiv (2 ^ (min (1:Int).toNat IntKind.u64.bits))) &&& BitVec.ofInt IntKind.u64.bits 6148914691236517205).toNat:Int))) + (IntKind.u64.wrap (((BitVec.ofInt IntKind.u64.bits a0 &&& BitVec.ofInt IntKind.u64.bits 6148914691236517205).toNat:Int)))):Int).fdiv (2 ^ (min (2:Int).toNat IntKind.u64.bits))) &&& BitVec.ofInt IntKind.u64.bits 3689348814741910323).toNat:Int))) + (IntKind.u64.wrap (((BitVec.ofInt IntKind.u64.bits (IntKind.u64.wrap ((IntKind.u64.wrap (((BitVec.ofInt IntKind.u64.bits ((a0:Int).fdiv (2 ^ (min (1:Int).toNat IntKind.u64.bits))) &&& BitVec.ofInt IntKind.u64.bits 6148914691236517205).toNat:Int))) + (IntKind.u64.wrap (((BitVec.ofInt IntKind.u64.bits a0 &&& BitVec.ofInt IntKind.u64.bits 6148914691236517205).toNat:Int))))) &&& BitVec.ofInt IntKind.u64.bits 3689348814741910323).toNat:Int)))):Int).fdiv (2 ^ (min (4:Int).toNat IntKind.u64.bits))) + (IntKind.u64.wrap ((IntKind.u64.wrap (((BitVec.ofInt IntKind.u64.bits ((IntKind.u64.wrap ((IntKind.u64.wrap (((BitVec.ofInt IntKind.u64.bits ((a0:Int).fdiv (2 ^ (min (1:Int).toNat IntKind.u64.bits))) &&& BitVec.ofInt IntKind.u64.bits 6148914691236517205).toNat:Int))) + (IntKind.u64.wrap (((BitVec.ofInt IntKind.u64.bits a0 &&& BitVec.ofInt IntKind.u64.bits 6148914691236517205).toNat:Int)))):Int).fdiv (2 ^ (min (2:Int).toNat IntKind.u64.bits))) &&& BitVec.ofInt IntKind.u64.bits 3689348814741910323).toNat:Int))) + (IntKind.u64.wrap (((BitVec.ofInt IntKind.u64.bits (IntKind.u64.wrap ((IntKind.u64.wrap (((BitVec.ofInt IntKind.u64.bits ((a0:Int).fdiv (2 ^ (min (1:Int).toNat IntKind.u64.bits))) &&& BitVec.ofInt IntKind.u64.bits 6148914691236517205).toNat:Int))) + (IntKind.u64.wrap (((BitVec.ofInt IntKind.u64.bits a0 &&& BitVec.ofInt IntKind.u64.bits 6148914691236517205).toNat:Int))))) &&& BitVec.ofInt IntKind.u64.bits 3689348814741910323).toNat:Int))))))) &&& BitVec.ofInt IntKind.u64.bits 1085102592571150095).toNat:Int))) + ((IntKind.u64.wrap (((BitVec.ofInt IntKind.u64.bits (IntKind.u64.wrap (((IntKind.u64.wrap ((IntKind.u64.wrap (((BitVec.ofInt IntKind.u64.bits ((IntKind.u64.wrap ((IntKind.u64.wrap (((BitVec.ofInt IntKind.u64.bits ((a0:Int).fdiv (2 ^ (min (1:Int).toNat IntKind.u64.bits))) &&& BitVec.ofInt IntKind.u64.bits 6148914691236517205).toNat:Int))) + (IntKind.u64.wrap (((BitVec.ofInt IntKind.u64.bits a0 &&& BitVec.ofInt IntKind.u64.bits 6148914691236517205).toNat:Int)))):Int).fdiv (2 ^ (min (2:Int).toNat IntKind.u64.bits))) &&& BitVec.ofInt IntKind.u64.bits 3689348814741910323).toNat:Int))) + (IntKind.u64.wrap (((BitVec.ofInt IntKind.u64.bits (IntKind.u64.wrap ((IntKind.u64.wrap (((BitVec.ofInt IntKind.u64.bits ((a0:Int).fdiv (2 ^ (min (1:Int).toNat IntKind.u64.bits))) &&& BitVec.ofInt IntKind.u64.bits 6148914691236517205).toNat:Int))) + (IntKind.u64.wrap (((BitVec.ofInt IntKind.u64.bits a0 &&& BitVec.ofInt IntKind.u64.bits 6148914691236517205).toNat:Int))))) &&& BitVec.ofInt IntKind.u64.bits 3689348814741910323).toNat:Int)))):Int).fdiv (2 ^ (min (4:Int).toNat IntKind.u64.bits))) + (IntKind.u64.wrap ((IntKind.u64.wrap (((BitVec.ofInt IntKind.u64.bits ((IntKind.u64.wrap ((IntKind.u64.wrap (((BitVec.ofInt IntKind.u64.bits ((a0:Int).fdiv (2 ^ (min (1:Int).toNat IntKind.u64.bits))) &&& BitVec.ofInt IntKind.u64.bits 6148914691236517205).toNat:Int))) + (IntKind.u64.wrap (((BitVec.ofInt IntKind.u64.bits a0 &&& BitVec.ofInt IntKind.u64.bits 6148914691236517205).toNat:Int)))):Int).fdiv (2 ^ (min (2:Int).toNat IntKind.u64.bits))) &&& BitVec.ofInt IntKind.u64.bits 3689348814741910323).toNat:Int))) + (IntKind.u64.wrap (((BitVec.ofInt IntKind.u64.bits (IntKind.u64.wrap ((IntKind.u64.wrap (((BitVec.ofInt IntKind.u64.bits ((a0:Int).fdiv (2 ^ (min (1:Int).toNat IntKind.u64.bits))) &&& BitVec.ofInt IntKind.u64.bits 6148914691236517205).toNat:Int))) + (IntKind.u64.wrap (((BitVec.ofInt IntKind.u64.bits a0 &&& BitVec.ofInt IntKind.u64.bits 6148914691236517205).toNat:Int))))) &&& BitVec.ofInt IntKind.u64.bits 3689348814741910323).toNat:Int))))))) &&& BitVec.ofInt IntKind.u64.bits 1085102592571150095).toNat:Int)):Int).fdiv (2 ^ (min (8:Int).toNat IntKind.u64.bits))))) + ((IntKind.u64.wrap ((IntKind.u64.wrap (((BitVec.ofInt IntKind.u64.bits (IntKind.u64.wrap (((IntKind.u64.wrap ((IntKind.u64.wrap (((BitVec.ofInt IntKind.u64.bits ((IntKind.u64.wrap ((IntKind.u64.wrap (((BitVec.ofInt IntKind.u64.bits ((a0:Int).fdiv (2 ^ (min (1:Int).toNat IntKind.u64.bits))) &&& BitVec.ofInt IntKind.u64.bits 6148914691236517205).toNat:Int))) + (IntKind.u64.wrap (((BitVec.ofInt IntKind.u64.bits a0 &&& BitVec.ofInt IntKind.u64.bits 6148914691236517205).toNat:Int)))):Int).fdiv (2 ^ (min (2:Int).toNat IntKind.u64.bits))) &&& BitVec.ofInt IntKind.u64.bits 3689348814741910323).toNat:Int))) + (IntKind.u64.wrap (((BitVec.ofInt IntKind.u64.bits (IntKind.u64.wrap ((IntKind.u64.wrap (((BitVec.ofInt IntKind.u64.bits ((a0:Int).fdiv (2 ^ (min (1:Int).toNat IntKind.u64.bits))) &&& BitVec.ofInt IntKind.u64.bits 6148914691236517205).toNat:Int))) + (IntKind.u64.wrap (((BitVec.ofInt IntKind.u64.bits a0 &&& BitVec.ofInt IntKind.u64.bits 6148914691236517205).toNat:Int))))) &&& BitVec.ofInt IntKind.u64.bits 3689348814741910323).toNat:Int)))):Int).fdiv (2 ^ (min (4:Int).toNat IntKind.u64.bits))) + (IntKind.u64.wrap ((IntKind.u64.wrap (((BitVec.ofInt IntKind.u64.bits ((IntKind.u64.wrap ((IntKind.u64.wrap (((BitVec.ofInt IntKind.u64.bits ((a0:Int).fdiv (2 ^ (min (1:Int).toNat IntKind.u64.bits))) &&& BitVec.ofInt IntKind.u64.bits 6148914691236517205).toNat:Int))) + (IntKind.u64.wrap (((BitVec.ofInt IntKind.u64.bits a0 &&& BitVec.ofInt IntKind.u64.bits 6148914691236517205).toNat:Int)))):Int).fdiv (2 ^ (min (2:Int).toNat IntKind.u64.bits))) &&& BitVec.ofInt IntKind.u64.bits 3689348814741910323).toNat:Int))) + (IntKind.u64.wrap (((BitVec.ofInt IntKind.u64.bits (IntKind.u64.wrap ((IntKind.u64.wrap (((BitVec.ofInt IntKind.u64.bits ((a0:Int).fdiv (2 ^ (min (1:Int).toNat IntKind.u64.bits))) &&& BitVec.ofInt IntKind.u64.bits 6148914691236517205).toNat:Int))) + (IntKind.u64.wrap (((BitVec.ofInt IntKind.u64.bits a0 &&& BitVec.ofInt IntKind.u64.bits 6148914691236517205).toNat:Int))))) &&& BitVec.ofInt IntKind.u64.bits 3689348814741910323).toNat:Int))))))) &&& BitVec.ofInt IntKind.u64.bits 1085102592571150095).toNat:Int))) + ((IntKind.u64.wrap (((BitVec.ofInt IntKind.u64.bits (IntKind.u64.wrap (((IntKind.u64.wrap ((IntKind.u64.wrap (((BitVec.ofInt IntKind.u64.bits ((IntKind.u64.wrap ((IntKind.u64.wrap (((BitVec.ofInt IntKind.u64.bits ((a0:Int).fdiv (2 ^ (min (1:Int).toNat IntKind.u64.bits))) &&& BitVec.ofInt IntKind.u64.bits 6148914691236517205).toNat:Int))) + (IntKind.u64.wrap (((BitVec.ofInt IntKind.u64.bits a0 &&& BitVec.ofInt IntKind.u64.bits 6148914691236517205).toNat:Int)))):Int).fdiv (2 ^ (min (2:Int).toNat IntKind.u64.bits))) &&& BitVec.ofInt IntKind.u64.bits 3689348814741910323).toNat:Int))) + (IntKind.u64.wrap (((BitVec.ofInt IntKind.u64.bits (IntKind.u64.wrap ((IntKind.u64.wrap (((BitVec.ofInt IntKind.u64.bits ((a0:Int).fdiv (2 ^ (min (1:Int).toNat IntKind.u64.bits))) &&& BitVec.ofInt IntKind.u64.bits 6148914691236517205).toNat:Int))) + (IntKind.u64.wrap (((BitVec.ofInt IntKind.u64.bits a0 &&& BitVec.ofInt IntKind.u64.bits 6148914691236517205).toNat:Int))))) &&& BitVec.ofInt IntKind.u64.bits 3689348814741910323).toNat:Int)))):Int).fdiv (2 ^ (min (4:Int).toNat IntKind.u64.bits))) + (IntKind.u64.wrap ((IntKind.u64.wrap (((BitVec.ofInt IntKind.u64.bits ((IntKind.u64.wrap ((IntKind.u64.wrap (((BitVec.ofInt IntKind.u64.bits ((a0:Int).fdiv (2 ^ (min (1:Int).toNat IntKind.u64.bits))) &&& BitVec.ofInt IntKind.u64.bits 6148914691236517205).toNat:Int))) + (IntKind.u64.wrap (((BitVec.ofInt IntKind.u64.bits a0 &&& BitVec.ofInt IntKind.u64.bits 6148914691236517205).toNat:Int)))):Int).fdiv (2 ^ (min (2:Int).toNat IntKind.u64.bits))) &&& BitVec.ofInt IntKind.u64.bits 3689348814741910323).toNat:Int))) + (IntKind.u64.wrap (((BitVec.ofInt IntKind.u64.bits (IntKind.u64.wrap ((IntKind.u64.wrap (((BitVec.ofInt IntKind.u64.bits ((a0:Int).fdiv (2 ^ (min (1:Int).toNat IntKind.u64.bits))) &&& BitVec.ofInt IntKind.u64.bits 6148914691236517205).toNat:Int))) + (IntKind.u64.wrap (((BitVec.ofInt IntKind.u64.bits a0 &&& BitVec.ofInt IntKind.u64.bits 6148914691236517205).toNat:Int))))) &&& BitVec.ofInt IntKind.u64.bits 3689348814741910323).toNat:Int))))))) &&& BitVec.ofInt IntKind.u64.bits 1085102592571150095).toNat:Int)):Int).fdiv (2 ^ (min (8:Int).toNat IntKind.u64.bits)))):Int).fdiv (2 ^ (min (16:Int).toNat IntKind.u64.bits))))) + ((IntKind.u64.wrap ((IntKind.u64.wrap ((IntKind.u64.wrap (((BitVec.ofInt IntKind.u64.bits (IntKind.u64.wrap (((IntKind.u64.wrap ((IntKind.u64.wrap (((BitVec.ofInt IntKind.u64.bits ((IntKind.u64.wrap ((IntKind.u64.wrap (((BitVec.ofInt IntKind.u64.bits ((a0:Int).fdiv (2 ^ (min (1:Int).toNat IntKind.u64.bits))) &&& BitVec.ofInt IntKind.u64.bits 6148914691236517205).toNat:Int))) + (IntKind.u64.wrap (((BitVec.ofInt IntKind.u64.bits a0 &&& BitVec.ofInt IntKind.u64.bits 6148914691236517205).toNat:Int)))):Int).fdiv (2 ^ (min (2:Int).toNat IntKind.u64.bits))) &&& BitVec.ofInt IntKind.u64.bits 3689348814741910323).toNat:Int))) + (IntKind.u64.wrap (((BitVec.ofInt IntKind.u64.bits (IntKind.u64.wrap ((IntKind.u64.wrap (((BitVec.ofInt IntKind.u64.bits ((a0:Int).fdiv (2 ^ (min (1:Int).toNat IntKind.u64.bits))) &&& BitVec.ofInt IntKind.u64.bits 6148914691236517205).toNat:Int))) + (IntKind.u64.wrap (((BitVec.ofInt IntKind.u64.bits a0 &&& BitVec.ofInt IntKind.u64.bits 6148914691236517205).toNat:Int))))) &&& BitVec.ofInt IntKind.u64.bits 3689348814741910323).toNat:Int)))):Int).fdiv (2 ^ (min (4:Int).toNat IntKind.u64.bits))) + (IntKind.u64.wrap ((IntKind.u64.wrap (((BitVec.ofInt IntKind.u64.bits ((IntKind.u64.wrap ((IntKind.u64.wrap (((BitVec.ofInt IntKind.u64.bits ((a0:Int).fdiv (2 ^ (min (1:Int).toNat IntKind.u64.bits))) &&& BitVec.ofInt IntKind.u64.bits 6148914691236517205).toNat:Int))) + (IntKind.u64.wrap (((BitVec.ofInt IntKind.u64.bits a0 &&& BitVec.ofInt IntKind.u64.bits 6148914691236517205).toNat:Int)))):Int).fdiv (2 ^ (min (2:Int).toNat IntKind.u64.bits))) &&& BitVec.ofInt IntKind.u64.bits 3689348814741910323).toNat:Int))) + (IntKind.u64.wrap (((BitVec.ofInt IntKind.u64.bits (IntKind.u64.wrap ((IntKind.u64.wrap (((BitVec.ofInt IntKind.u64.bits ((a0:Int).fdiv (2 ^ (min (1:Int).toNat IntKind.u64.bits))) &&& BitVec.ofInt IntKind.u64.bits 6148914691236517205).toNat:Int))) + (IntKind.u64.wrap (((BitVec.ofInt IntKind.u64.bits a0 &&& BitVec.ofInt IntKind.u64.bits 6148914691236517205).toNat:Int))))) &&& BitVec.ofInt IntKind.u64.bits 3689348814741910323).toNat:Int))))))) &&& BitVec.ofInt IntKind.u64.bits 1085102592571150095).toNat:Int))) + ((IntKind.u64.wrap (((BitVec.ofInt IntKind.u64.bits (IntKind.u64.wrap (((IntKind.u64.wrap ((IntKind.u64.wrap (((BitVec.ofInt IntKind.u64.bits ((IntKind.u64.wrap ((IntKind.u64.wrap (((BitVec.ofInt IntKind.u64.bits ((a0:Int).fdiv (2 ^ (min (1:Int).toNat IntKind.u64.bits))) &&& BitVec.ofInt IntKind.u64.bits 6148914691236517205).toNat:Int))) + (IntKind.u64.wrap (((BitVec.ofInt IntKind.u64.bits a0 &&& BitVec.ofInt IntKind.u64.bits 6148914691236517205).toNat:Int)))):Int).fdiv (2 ^ (min (2:Int).toNat IntKind.u64.bits))) &&& BitVec.ofInt IntKind.u64.bits 3689348814741910323).toNat:Int))) + (IntKind.u64.wrap (((BitVec.ofInt IntKind.u64.bits (IntKind.u64.wrap ((IntKind.u64.wrap (((BitVec.ofInt IntKind.u64.bits ((a0:Int).fdiv (2 ^ (min (1:Int).toNat IntKind.u64.bits))) &&& BitVec.ofInt IntKind.u64.bits 6148914691236517205).toNat:Int))) + (IntKind.u64.wrap (((BitVec.ofInt IntKind.u64.bits a0 &&& BitVec.ofInt IntKind.u64.bits 6148914691236517205).toNat:Int))))) &&& BitVec.ofInt IntKind.u64.bits 3689348814741910323).toNat:Int)))):Int).fdiv (2 ^ (min (4:Int).toNat IntKind.u64.bits))) + (IntKind.u64.wrap ((IntKind.u64.wrap (((BitVec.ofInt IntKind.u64.bits ((IntKind.u64.wrap ((IntKind.u64.wrap (((BitVec.ofInt IntKind.u64.bits ((a0:Int).fdiv (2 ^ (min (1:Int).toNat IntKind.u64.bits))) &&& BitVec.ofInt IntKind.u64.bits 6148914691236517205).toNat:Int))) + (IntKind.u64.wrap (((BitVec.ofInt IntKind.u64.bits a0 &&& BitVec.ofInt IntKind.u64.bits 6148914691236517205).toNat:Int)))):Int).fdiv (2 ^ (min (2:Int).toNat IntKind.u64.bits))) &&& BitVec.ofInt IntKind.u64.bits 3689348814741910323).toNat:Int))) + (IntKind.u64.wrap (((BitVec.ofInt IntKind.u64.bits (IntKind.u64.wrap ((IntKind.u64.wrap (((BitVec.ofInt IntKind.u64.bits ((a0:Int).fdiv (2 ^ (min (1:Int).toNat IntKind.u64.bits))) &&& BitVec.ofInt IntKind.u64.bits 6148914691236517205).toNat:Int))) + (IntKind.u64.wrap (((BitVec.ofInt IntKind.u64.bits a0 &&& BitVec.ofInt IntKind.u64.bits 6148914691236517205).toNat:Int))))) &&& BitVec.ofInt IntKind.u64.bits 3689348814741910323).toNat:Int))))))) &&& BitVec.ofInt IntKind.u64.bits 1085102592571150095).toNat:Int)):Int).fdiv (2 ^ (min (8:Int).toNat IntKind.u64.bits))))) + ((IntKind.u64.wrap ((IntKind.u64.wrap (((BitVec.ofInt IntKind.u64.bits (IntKind.u64.wrap (((IntKind.u64.wrap ((IntKind.u64.wrap (((BitVec.ofInt IntKind.u64.bits ((IntKind.u64.wrap ((IntKind.u64.wrap (((BitVec.ofInt IntKind.u64.bits ((a0:Int).fdiv (2 ^ (min (1:Int).toNat IntKind.u64.bits))) &&& BitVec.ofInt IntKind.u64.bits 6148914691236517205).toNat:Int))) + (IntKind.u64.wrap (((BitVec.ofInt IntKind.u64.bits a0 &&& BitVec.ofInt IntKind.u64.bits 6148914691236517205).toNat:Int)))):Int).fdiv (2 ^ (min (2:Int).toNat IntKind.u64.bits))) &&& BitVec.ofInt IntKind.u64.bits 3689348814741910323).toNat:Int))) + (IntKind.u64.wrap (((BitVec.ofInt IntKind.u64.bits (IntKind.u64.wrap ((IntKind.u64.wrap (((BitVec.ofInt IntKind.u64.bits ((a0:Int).fdiv (2 ^ (min (1:Int).toNat IntKind.u64.bits))) &&& BitVec.ofInt IntKind.u64.bits 6148914691236517205).toNat:Int))) + (IntKind.u64.wrap (((BitVec.ofInt IntKind.u64.bits a0 &&& BitVec.ofInt IntKind.u64.bits 6148914691236517205).toNat:Int))))) &&& BitVec.ofInt IntKind.u64.bits 3689348814741910323).toNat:Int)))):Int).fdiv (2 ^ (min (4:Int).toNat IntKind.u64.bits))) + (IntKind.u64.wrap ((IntKind.u64.wrap (((BitVec.ofInt IntKind.u64.bits ((IntKind.u64.wrap ((IntKind.u64.wrap (((BitVec.ofInt IntKind.u64.bits ((a0:Int).fdiv (2 ^ (min (1:Int).toNat IntKind.u64.bits))) &&& BitVec.ofInt IntKind.u64.bits 6148914691236517205).toNat:Int))) + (IntKind.u64.wrap (((BitVec.ofInt IntKind.u64.bits a0 &&& BitVec.ofInt IntKind.u64.bits 6148914691236517205).toNat:Int)))):Int).fdiv (2 ^ (min (2:Int).toNat IntKind.u64.bits))) &&& BitVec.ofInt IntKind.u64.bits 3689348814741910323).toNat:Int))) + (IntKind.u64.wrap (((BitVec.ofInt IntKind.u64.bits (IntKind.u64.wrap ((IntKind.u64.wrap (((BitVec.ofInt IntKind.u64.bits ((a0:Int).fdiv (2 ^ (min (1:Int).toNat IntKind.u64.bits))) &&& BitVec.ofInt IntKind.u64.bits 6148914691236517205).toNat:Int))) + (IntKind.u64.wrap (((BitVec.ofInt IntKind.u64.bits a0 &&& BitVec.ofInt IntKind.u64.bits 6148914691236517205).toNat:Int))))) &&& BitVec.ofInt IntKind.u64.bits 3689348814741910323).toNat:Int))))))) &&& BitVec.ofInt IntKind.u64.bits 1085102592571150095).toNat:Int))) + ((IntKind.u64.wrap (((BitVec.ofInt IntKind.u64.bits (IntKind.u64.wrap (((IntKind.u64.wrap ((IntKind.u64.wrap (((BitVec.ofInt IntKind.u64.bits ((IntKind.u64.wrap ((IntKind.u64.wrap (((BitVec.ofInt IntKind.u64.bits ((a0:Int).fdiv (2 ^ (min (1:Int).toNat IntKind.u64.bits))) &&& BitVec.ofInt IntKind.u64.bits 6148914691236517205).toNat:Int))) + (IntKind.u64.wrap (((BitVec.ofInt IntKind.u64.bits a0 &&& BitVec.ofInt IntKind.u64.bits 6148914691236517205).toNat:Int)))):Int).fdiv (2 ^ (min (2:Int).toNat IntKind.u64.bits))) &&& BitVec.ofInt IntKind.u64.bits 3689348814741910323).toNat:Int))) + (IntKind.u64.wrap (((BitVec.ofInt IntKind.u64.bits (IntKind.u64.wrap ((IntKind.u64.wrap (((BitVec.ofInt IntKind.u64.bits ((a0:Int).fdiv (2 ^ (min (1:Int).toNat IntKind.u64.bits))) &&& BitVec.ofInt IntKind.u64.bits 6148914691236517205).toNat:Int))) + (IntKind.u64.wrap (((BitVec.ofInt IntKind.u64.bits a0 &&& BitVec.ofInt IntKind.u64.bits 6148914691236517205).toNat:Int))))) &&& BitVec.ofInt IntKind.u64.bits 3689348814741910323).toNat:Int)))):Int).fdiv (2 ^ (min (4:Int).toNat IntKind.u64.bits))) + (IntKind.u64.wrap ((IntKind.u64.wrap (((BitVec.ofInt IntKind.u64.bits ((IntKind.u64.wrap ((IntKind.u64.wrap (((BitVec.ofInt IntKind.u64.bits ((a0:Int).fdiv (2 ^ (min (1:Int).toNat IntKind.u64.bits))) &&& BitVec.ofInt IntKind.u64.bits 6148914691236517205).toNat:Int))) + (IntKind.u64.wrap (((BitVec.ofInt IntKind.u64.bits a0 &&& BitVec.ofInt IntKind.u64.bits 6148914691236517205).toNat:Int)))):Int).fdiv (2 ^ (min (2:Int).toNat IntKind.u64.bits))) &&& BitVec.ofInt IntKind.u64.bits 3689348814741910323).toNat:Int))) + (IntKind.u64.wrap (((BitVec.ofInt IntKind.u64.bits (IntKind.u64.wrap ((IntKind.u64.wrap (((BitVec.ofInt IntKind.u64.bits ((a0:Int).fdiv (2 ^ (min (1:Int).toNat IntKind.u64.bits))) &&& BitVec.ofInt IntKind.u64.bits 6148914691236517205).toNat:Int))) + (IntKind.u64.wrap (((BitVec.ofInt IntKind.u64.bits a0 &&& BitVec.ofInt IntKind.u64.bits 6148914691236517205).toNat:Int))))) &&& BitVec.ofInt IntKind.u64.bits 3689348814741910323).toNat:Int))))))) &&& BitVec.ofInt IntKind.u64.bits 1085102592571150095).toNat:Int)):Int).fdiv (2 ^ (min (8:Int).toNat IntKind.u64.bits)))):Int).fdiv (2 ^ (min (16:Int).toNat IntKind.u64.bits)))):Int).fdiv (2 ^ (min (32:Int).toNat IntKind.u64.bits)))))) &&& BitVec.ofInt IntKind.i64.bits 127).toNat:Int))),H)
theorem f_eq (rec:Rec) (k:Nat):∀ a0 H,f rec k a0 H=ex PP (orc math_bits_OnesCount64.id) rec k body (St.of 35 [(0,.int .u64 a0)] []) H (K0 PP Go.Proofs.Try.f118):=by
 intros a0 H
 unfold f
 kernel_rfl
theorem call (k:Nat):∀ a0 H,callF PP orc (k + 1) math_bits_OnesCount64.id [.int .u64 a0] H=f (callF PP orc k) k a0 H:=by
 intros a0 H
 rw [callF_at (fn:=Go.Proofs.Try.f118) (c:=body) Go.Proofs.Try.func118 (by kernel_rfl) (Nat.le_of_ble_eq_true (by kernel_rfl)),f_eq]
 kernel_rfl
end math_bits_OnesCount64
namespace impl_onlyValue
noncomputable def body:Code:=(Go.Proofs.Try.f88).body.getD .skip
abbrev o:=orc impl_onlyValue.id
noncomputable def l0 (rec:Rec) (k:Nat):Nat→Int→Int→Hp→An
 | 0,_,_,_=>none
 | n + 1,x0,x3,H=>bif decide (x3 ≤ 4) then if (x3:Int) < 0 then none else bif x0 == (IntKind.i64.wrap (1 * 2 ^ (min (x3:Int).toNat IntKind.i64.bits))) then some (.int .i64 x3,H) else (l0 rec k n) x0 (IntKind.i64.wrap (x3 + 1)) H else some (.int .i64 0,H)
noncomputable def f (rec:Rec) (k:Nat) (a0:Int) (H:Hp):An:=l0 rec k k a0 1 H
theorem l0_eq (rec:Rec) (k:Nat):∀ n x0 x3 H,l0 rec k n x0 x3 H=iter (o.at (lbody (sub body [1,0,1,0]))) (ex PP o rec k (lbody (sub body [1,0,1,0]))) (kAt PP o rec k body [1,0,1,0] [] (K0 PP Go.Proofs.Try.f88)) n (St.of 13 [(0,.int .i64 x0),(3,.int .i64 x3)] []) H:=by
 intro n
 induction n with
 | zero=>intros; rfl
 | succ n ih=>
  intros x0 x3 H
  simp only [l0,ih,-eq_self]
  kernel_rfl
theorem f_eq (rec:Rec) (k:Nat):∀ a0 H,f rec k a0 H=ex PP o rec k body (St.of 13 [(0,.int .i64 a0)] []) H (K0 PP Go.Proofs.Try.f88):=by
 intros a0 H
 unfold f
 try simp only [l0_eq rec k,-eq_self]
 kernel_rfl
theorem call (k:Nat):∀ a0 H,callF PP orc (k + 1) impl_onlyValue.id [.int .i64 a0] H=f (callF PP orc k) k a0 H:=by
 intros a0 H
 rw [callF_at (fn:=Go.Proofs.Try.f88) (c:=body) Go.Proofs.Try.func88 (by kernel_rfl) (Nat.le_of_ble_eq_true (by kernel_rfl)),f_eq]
 kernel_rfl
end impl_onlyValue

namespace impl_NarrowSingles
noncomputable def body:Code:=(Go.Proofs.Try.f37).body.getD .skip
abbrev o:=orc impl_NarrowSingles.id
abbrev TL0:=Int→Sl→Sl→Int→Int→Hp→An
abbrev TL2:=Int→Sl→Int→Int→Sl→Int→Int→Int→Int→Hp→An
abbrev PhL0 (rec:Rec) (k n0:Nat) (L0:TL0):Prop:=∀ x1 x5 x17 x18 x19 H,L0 x1 x5 x17 x18 x19 H=iter (o.at (lbody (sub body [1,1,1,0,1,0]))) (ex PP o rec k (lbody (sub body [1,1,1,0,1,0]))) (kAt PP o rec k body [1,1,1,0,1,0] [] (K0 PP Go.Proofs.Try.f37)) n0 (St.of 65 [(1,.int .i64 x1),(5,.sl 1 x5),(17,.sl 1 x17),(18,.int .i64 x18),(19,.int .i64 x19)] []) H
abbrev PhL2 (rec:Rec) (k n0 n2:Nat) (L2:TL2):Prop:=∀ x1 x5 x6 x7 x17 x18 x19 x27 x28 H,L2 x1 x5 x6 x7 x17 x18 x19 x27 x28 H=iter (o.at (lbody (sub body [1,1,1,0,1,0,0,1,1,0,0,1,1,1,0]))) (ex PP o rec k (lbody (sub body [1,1,1,0,1,0,0,1,1,0,0,1,1,1,0]))) (kAt PP o rec k body [1,1,1,0,1,0,0,1,1,0,0,1,1,1,0] [n0] (K0 PP Go.Proofs.Try.f37)) n2 (St.of 65 [(1,.int .i64 x1),(5,.sl 1 x5),(6,.int .i64 x6),(7,.int .i64 x7),(17,.sl 1 x17),(18,.int .i64 x18),(19,.int .i64 x19),(27,.int .i64 x27),(28,.int .i64 x28)] []) H
noncomputable def j1 (rec:Rec) (k:Nat) (L0:TL0) (x1:Int) (x5:Sl) (x17:Sl) (x18:Int) (x19:Int) (H:Hp):An:=L0 x1 x5 x17 x18 (IntKind.i64.wrap (x19 + 1)) H
noncomputable def j3 (rec:Rec) (k:Nat) (x5:Sl) (H:Hp):An:=some (.sl 1 x5,H)
noncomputable def j5 (rec:Rec) (k:Nat) (L0:TL0) (L2:TL2) (L4:Int→Sl→Int→Int→Sl→Int→Int→Int→Int→Sl→Int→Int→Hp→An) (x1:Int) (x5:Sl) (x6:Int) (x7:Int) (x17:Sl) (x18:Int) (x19:Int) (x27:Int) (x28:Int) (x45:Sl) (x46:Int) (x47:Int) (H:Hp):An:=L4 x1 x5 x6 x7 x17 x18 x19 x27 x28 x45 x46 (IntKind.i64.wrap (x47 + 1)) H
noncomputable def j6 (rec:Rec) (k:Nat) (L0:TL0) (L2:TL2) (x1:Int) (x5:Sl) (x6:Int) (x7:Int) (x17:Sl) (x18:Int) (x19:Int) (x27:Int) (x28:Int) (H:Hp):An:=L2 x1 x5 x6 x7 x17 x18 x19 x27 (IntKind.i64.wrap (x28 + 1)) H
noncomputable def l4 (rec:Rec) (k:Nat) (L0:TL0) (L2:TL2):Nat→Int→Sl→Int→Int→Sl→Int→Int→Int→Int→Sl→Int→Int→Hp→An
 | 0,_,_,_,_,_,_,_,_,_,_,_,_,_=>none
 | n + 1,x1,x5,x6,x7,x17,x18,x19,x27,x28,x45,x46,x47,H=>bif decide (x47 < x46) then bif decide (0 ≤ (x47:Int)) && decide ((x47:Int) < x45.len) then (ldI .i64 H x45.blk (x45.off + (x47:Int).toNat * 1)).bind fun n8=>bif n8 != x6 then bif decide (0 ≤ (n8:Int)) && decide ((n8:Int) < x5.len) then (ldI .i64 H x5.blk (x5.off + (n8:Int).toNat * 1)).bind fun n9=>bif decide (0 ≤ (n8:Int)) && decide ((n8:Int) < x5.len) then (H.sto x5.blk (x5.off + (n8:Int).toNat * 1) [.int .i64 (IntKind.i64.wrap (((BitVec.ofInt IntKind.i64.bits n9 &&& ~~~ (BitVec.ofInt IntKind.i64.bits x7)).toNat:Int)))]).bind fun H10=>j5 rec k L0 L2 (l4 rec k L0 L2 n) x1 x5 x6 x7 x17 x18 x19 x27 x28 x45 x46 x47 H10 else none else none else j5 rec k L0 L2 (l4 rec k L0 L2 n) x1 x5 x6 x7 x17 x18 x19 x27 x28 x45 x46 x47 H else none else j6 rec k L0 L2 x1 x5 x6 x7 x17 x18 x19 x27 x28 H
noncomputable def l2 (rec:Rec) (k:Nat) (L0:TL0):Nat→Int→Sl→Int→Int→Sl→Int→Int→Int→Int→Hp→An
 | 0,_,_,_,_,_,_,_,_,_,_=>none
 | n + 1,x1,x5,x6,x7,x17,x18,x19,x27,x28,H=>bif decide (x28 < x27) then if (x1:Int)=0 then none else if (x1:Int)=0 then none else l4 rec k L0 (l2 rec k L0 n) k x1 x5 x6 x7 x17 x18 x19 x27 x28 (Sl.mk false H.length 0 2) ((Sl.mk false H.length 0 2).len:Int) 0 (H ++ [some (Blk.mk false [.int .i64 (IntKind.i64.wrap ((IntKind.i64.wrap ((IntKind.i64.wrap ((x6:Int).tdiv x1)) * x1)) + x28)),.int .i64 (IntKind.i64.wrap ((IntKind.i64.wrap (x28 * x1)) + ((x6:Int).tmod x1)))])]) else j1 rec k L0 x1 x5 x17 x18 x19 H
noncomputable def l0 (rec:Rec) (k:Nat):Nat→Int→Sl→Sl→Int→Int→Hp→An
 | 0,_,_,_,_,_,_=>none
 | n + 1,x1,x5,x17,x18,x19,H=>bif decide (x19 < x18) then bif decide (0 ≤ (x19:Int)) && decide ((x19:Int) < x17.len) then (ldI .i64 H x17.blk (x17.off + (x19:Int).toNat * 1)).bind fun n5=>(rec impl_onlyValue.id [.int .i64 n5] H).bind fun r6=>(r6.1.toI .i64).bind fun n7=>bif n7 == 0 then j1 rec k (l0 rec k n) x1 x5 x17 x18 x19 r6.2 else l2 rec k (l0 rec k n) k x1 x5 x19 n5 x17 x18 x19 x1 0 r6.2 else none else j3 rec k x5 H
noncomputable def f (rec:Rec) (k:Nat) (a0:Sl) (a1:Int) (H:Hp):An:=(rec impl_MasksValid.id [.sl 1 a0,.int .i64 a1] H).bind fun r1=>r1.1.toB.bind fun b2=>bif !b2 then some (.sl 1 Sl.none,r1.2) else (rec slices_Clone_int.id [.sl 1 a0] r1.2).bind fun r3=>(r3.1.toS 1).bind fun s4=>l0 rec k k a1 s4 a0 (a0.len:Int) 0 r3.2
theorem j1_eq (rec:Rec) (k:Nat) (n0:Nat) (L0:TL0) (hL0:PhL0 rec k n0 L0):∀ x1 x5 x17 x18 x19 H,j1 rec k L0 x1 x5 x17 x18 x19 H=ex PP o rec k (sub body [1,1,1,0,1,0,0,1,1,1]) (St.of 65 [(1,.int .i64 x1),(5,.sl 1 x5),(17,.sl 1 x17),(18,.int .i64 x18),(19,.int .i64 x19)] []) H (kAt PP o rec k body [1,1,1,0,1,0,0,1,1,1] [n0] (K0 PP Go.Proofs.Try.f37)):=by
 intros x1 x5 x17 x18 x19 H
 unfold j1
 try simp only [hL0,-eq_self]
 kernel_rfl
theorem j3_eq (rec:Rec) (k:Nat):∀ x5 H,j3 rec k x5 H=ex PP o rec k (sub body [1,1,1,1]) (St.of 65 [(5,.sl 1 x5)] []) H (kAt PP o rec k body [1,1,1,1] [] (K0 PP Go.Proofs.Try.f37)):=by
 intros x5 H
 unfold j3
 kernel_rfl
theorem j5_eq (rec:Rec) (k:Nat) (n0:Nat) (L0:TL0) (hL0:PhL0 rec k n0 L0) (n2:Nat) (L2:TL2) (hL2:PhL2 rec k n0 n2 L2) (n4:Nat) (L4:Int→Sl→Int→Int→Sl→Int→Int→Int→Int→Sl→Int→Int→Hp→An) (hL4:∀ x1 x5 x6 x7 x17 x18 x19 x27 x28 x45 x46 x47 H,L4 x1 x5 x6 x7 x17 x18 x19 x27 x28 x45 x46 x47 H=iter (o.at (lbody (sub body [1,1,1,0,1,0,0,1,1,0,0,1,1,1,0,0,1,1,0,0,1,1,0]))) (ex PP o rec k (lbody (sub body [1,1,1,0,1,0,0,1,1,0,0,1,1,1,0,0,1,1,0,0,1,1,0]))) (kAt PP o rec k body [1,1,1,0,1,0,0,1,1,0,0,1,1,1,0,0,1,1,0,0,1,1,0] [n0,n2] (K0 PP Go.Proofs.Try.f37)) n4 (St.of 65 [(1,.int .i64 x1),(5,.sl 1 x5),(6,.int .i64 x6),(7,.int .i64 x7),(17,.sl 1 x17),(18,.int .i64 x18),(19,.int .i64 x19),(27,.int .i64 x27),(28,.int .i64 x28),(45,.sl 1 x45),(46,.int .i64 x46),(47,.int .i64 x47)] []) H):∀ x1 x5 x6 x7 x17 x18 x19 x27 x28 x45 x46 x47 H,j5 rec k L0 L2 L4 x1 x5 x6 x7 x17 x18 x19 x27 x28 x45 x46 x47 H=ex PP o rec k (sub body [1,1,1,0,1,0,0,1,1,0,0,1,1,1,0,0,1,1,0,0,1,1,0,0,1,1,1]) (St.of 65 [(1,.int .i64 x1),(5,.sl 1 x5),(6,.int .i64 x6),(7,.int .i64 x7),(17,.sl 1 x17),(18,.int .i64 x18),(19,.int .i64 x19),(27,.int .i64 x27),(28,.int .i64 x28),(45,.sl 1 x45),(46,.int .i64 x46),(47,.int .i64 x47)] []) H (kAt PP o rec k body [1,1,1,0,1,0,0,1,1,0,0,1,1,1,0,0,1,1,0,0,1,1,0,0,1,1,1] [n0,n2,n4] (K0 PP Go.Proofs.Try.f37)):=by
 intros x1 x5 x6 x7 x17 x18 x19 x27 x28 x45 x46 x47 H
 unfold j5
 try simp only [hL0,hL2,hL4,-eq_self]
 kernel_rfl
theorem j6_eq (rec:Rec) (k:Nat) (n0:Nat) (L0:TL0) (hL0:PhL0 rec k n0 L0) (n2:Nat) (L2:TL2) (hL2:PhL2 rec k n0 n2 L2):∀ x1 x5 x6 x7 x17 x18 x19 x27 x28 H,j6 rec k L0 L2 x1 x5 x6 x7 x17 x18 x19 x27 x28 H=ex PP o rec k (sub body [1,1,1,0,1,0,0,1,1,0,0,1,1,1,0,0,1,1,1]) (St.of 65 [(1,.int .i64 x1),(5,.sl 1 x5),(6,.int .i64 x6),(7,.int .i64 x7),(17,.sl 1 x17),(18,.int .i64 x18),(19,.int .i64 x19),(27,.int .i64 x27),(28,.int .i64 x28)] []) H (kAt PP o rec k body [1,1,1,0,1,0,0,1,1,0,0,1,1,1,0,0,1,1,1] [n0,n2] (K0 PP Go.Proofs.Try.f37)):=by
 intros x1 x5 x6 x7 x17 x18 x19 x27 x28 H
 unfold j6
 try simp only [hL0,hL2,-eq_self]
 kernel_rfl
theorem l4_eq (rec:Rec) (k:Nat) (n0:Nat) (L0:TL0) (hL0:PhL0 rec k n0 L0) (n2:Nat) (L2:TL2) (hL2:PhL2 rec k n0 n2 L2):∀ n x1 x5 x6 x7 x17 x18 x19 x27 x28 x45 x46 x47 H,l4 rec k L0 L2 n x1 x5 x6 x7 x17 x18 x19 x27 x28 x45 x46 x47 H=iter (o.at (lbody (sub body [1,1,1,0,1,0,0,1,1,0,0,1,1,1,0,0,1,1,0,0,1,1,0]))) (ex PP o rec k (lbody (sub body [1,1,1,0,1,0,0,1,1,0,0,1,1,1,0,0,1,1,0,0,1,1,0]))) (kAt PP o rec k body [1,1,1,0,1,0,0,1,1,0,0,1,1,1,0,0,1,1,0,0,1,1,0] [n0,n2] (K0 PP Go.Proofs.Try.f37)) n (St.of 65 [(1,.int .i64 x1),(5,.sl 1 x5),(6,.int .i64 x6),(7,.int .i64 x7),(17,.sl 1 x17),(18,.int .i64 x18),(19,.int .i64 x19),(27,.int .i64 x27),(28,.int .i64 x28),(45,.sl 1 x45),(46,.int .i64 x46),(47,.int .i64 x47)] []) H:=by
 intro n
 induction n with
 | zero=>intros; rfl
 | succ n ih=>
  intros x1 x5 x6 x7 x17 x18 x19 x27 x28 x45 x46 x47 H
  simp only [l4,hL0,hL2,j5_eq rec k n0 L0 hL0 n2 L2 hL2 n (l4 rec k L0 L2 n) (fun x1 x5 x6 x7 x17 x18 x19 x27 x28 x45 x46 x47 H=>ih x1 x5 x6 x7 x17 x18 x19 x27 x28 x45 x46 x47 H),j6_eq rec k n0 L0 hL0 n2 L2 hL2,ih,-eq_self]
  kernel_rfl
theorem l2_eq (rec:Rec) (k:Nat) (n0:Nat) (L0:TL0) (hL0:PhL0 rec k n0 L0):∀ n x1 x5 x6 x7 x17 x18 x19 x27 x28 H,l2 rec k L0 n x1 x5 x6 x7 x17 x18 x19 x27 x28 H=iter (o.at (lbody (sub body [1,1,1,0,1,0,0,1,1,0,0,1,1,1,0]))) (ex PP o rec k (lbody (sub body [1,1,1,0,1,0,0,1,1,0,0,1,1,1,0]))) (kAt PP o rec k body [1,1,1,0,1,0,0,1,1,0,0,1,1,1,0] [n0] (K0 PP Go.Proofs.Try.f37)) n (St.of 65 [(1,.int .i64 x1),(5,.sl 1 x5),(6,.int .i64 x6),(7,.int .i64 x7),(17,.sl 1 x17),(18,.int .i64 x18),(19,.int .i64 x19),(27,.int .i64 x27),(28,.int .i64 x28)] []) H:=by
 intro n
 induction n with
 | zero=>intros; rfl
 | succ n ih=>
  intros x1 x5 x6 x7 x17 x18 x19 x27 x28 H
  simp only [l2,hL0,l4_eq rec k n0 L0 hL0 n (l2 rec k L0 n) (fun x1 x5 x6 x7 x17 x18 x19 x27 x28 H=>ih x1 x5 x6 x7 x17 x18 x19 x27 x28 H),j1_eq rec k n0 L0 hL0,ih,-eq_self]
  kernel_rfl
theorem l0_eq (rec:Rec) (k:Nat):∀ n x1 x5 x17 x18 x19 H,l0 rec k n x1 x5 x17 x18 x19 H=iter (o.at (lbody (sub body [1,1,1,0,1,0]))) (ex PP o rec k (lbody (sub body [1,1,1,0,1,0]))) (kAt PP o rec k body [1,1,1,0,1,0] [] (K0 PP Go.Proofs.Try.f37)) n (St.of 65 [(1,.int .i64 x1),(5,.sl 1 x5),(17,.sl 1 x17),(18,.int .i64 x18),(19,.int .i64 x19)] []) H:=by
 intro n
 induction n with
 | zero=>intros; rfl
 | succ n ih=>
  intros x1 x5 x17 x18 x19 H
  simp only [l0,j1_eq rec k n (l0 rec k n) (fun x1 x5 x17 x18 x19 H=>ih x1 x5 x17 x18 x19 H),l2_eq rec k n (l0 rec k n) (fun x1 x5 x17 x18 x19 H=>ih x1 x5 x17 x18 x19 H),j3_eq rec k,ih,-eq_self]
  kernel_rfl
theorem f_eq (rec:Rec) (k:Nat):∀ a0 a1 H,f rec k a0 a1 H=ex PP o rec k body (St.of 65 [(0,.sl 1 a0),(1,.int .i64 a1)] []) H (K0 PP Go.Proofs.Try.f37):=by
 intros a0 a1 H
 unfold f
 try simp only [l0_eq rec k,-eq_self]
 kernel_rfl
theorem call (k:Nat):∀ a0 a1 H,callF PP orc (k + 1) impl_NarrowSingles.id [.sl 1 a0,.int .i64 a1] H=f (callF PP orc k) k a0 a1 H:=by
 intros a0 a1 H
 rw [callF_at (fn:=Go.Proofs.Try.f37) (c:=body) Go.Proofs.Try.func37 (by kernel_rfl) (Nat.le_of_ble_eq_true (by kernel_rfl)),f_eq]
 kernel_rfl
end impl_NarrowSingles
end Go.Proofs.Ytjojhbdghhmeeaa.Rp
