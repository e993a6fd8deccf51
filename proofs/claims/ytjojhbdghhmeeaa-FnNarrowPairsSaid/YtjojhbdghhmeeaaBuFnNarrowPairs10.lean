/- Texts for the row of the law FnNarrowPairs, part 10: the plain machine, the program's functions on it, what they come to. No conditions. -/
import Derived.Test.YtjojhbdghhmeeaaAb
import Derived.Test.YtjojhbdghhmeeaaOr
set_option linter.unusedVariables false
set_option linter.unusedSimpArgs false
set_option maxRecDepth 100000
namespace Go.Proofs.Ytjojhbdghhmeeaa.Rp
open Go Go.Proofs.Ytjojhbdghhmeeaa.Ab
namespace spec_MasksHave
noncomputable def body:Code:=(Go.Proofs.Try.f27).body.getD .skip
abbrev o:=orc spec_MasksHave.id
noncomputable def l2 (rec:Rec) (k:Nat):Nat→Sl→Sl→Int→Hp→An
 | 0,_,_,_,_=>none
 | n + 1,x0,x2,x7,H=>bif decide (x7 < (x2.len:Int)) then bif decide (0 ≤ (x7:Int)) && decide ((x7:Int) < x0.len) then (ldI .i64 H x0.blk (x0.off + (x7:Int).toNat * 1)).bind fun n5=>bif decide (0 ≤ (x7:Int)) && decide ((x7:Int) < x2.len) then (ldI .i64 H x2.blk (x2.off + (x7:Int).toNat * 1)).bind fun n6=>if (n6:Int) < 0 then none else bif (((n5:Int).fdiv (2 ^ (min (n6:Int).toNat IntKind.i64.bits)):Int).tmod 2) == 0 then some (.bool false,H) else (l2 rec k n) x0 x2 (IntKind.i64.wrap (x7 + 1)) H else none else none else some (.bool true,H)
noncomputable def j1 (rec:Rec) (k:Nat) (x0:Sl) (x2:Sl) (H:Hp):An:=l2 rec k k x0 x2 0 H
noncomputable def j0 (rec:Rec) (k:Nat) (x0:Sl) (x2:Sl) (x17:Bool) (H:Hp):An:=bif x17 then some (.bool false,H) else j1 rec k x0 x2 H
noncomputable def f (rec:Rec) (k:Nat) (a0:Sl) (a1:Int) (a2:Sl) (H:Hp):An:=(rec spec_MasksValid.id [.sl 1 a0,.int .i64 a1] H).bind fun r1=>r1.1.toB.bind fun b2=>bif !b2 then j0 rec k a0 a2 true r1.2 else (rec spec_GridValid.id [.sl 1 a2,.int .i64 a1] r1.2).bind fun r3=>r3.1.toB.bind fun b4=>j0 rec k a0 a2 (!b4) r3.2
theorem l2_eq (rec:Rec) (k:Nat):∀ n x0 x2 x7 H,l2 rec k n x0 x2 x7 H=iter (o.at (lbody (sub body [1,1,0,1,0]))) (ex PP o rec k (lbody (sub body [1,1,0,1,0]))) (kAt PP o rec k body [1,1,0,1,0] [] (K0 PP Go.Proofs.Try.f27)) n (St.of 35 [(0,.sl 1 x0),(2,.sl 1 x2),(7,.int .i64 x7)] []) H:=by
 intro n
 induction n with
 | zero=>intros; rfl
 | succ n ih=>
  intros x0 x2 x7 H
  simp only [l2,ih,-eq_self]
  kernel_rfl
theorem j1_eq (rec:Rec) (k:Nat):∀ x0 x2 H,j1 rec k x0 x2 H=ex PP o rec k (sub body [1,1]) (St.of 35 [(0,.sl 1 x0),(2,.sl 1 x2)] []) H (kAt PP o rec k body [1,1] [] (K0 PP Go.Proofs.Try.f27)):=by
 intros x0 x2 H
 unfold j1
 try simp only [l2_eq rec k,-eq_self]
 kernel_rfl
theorem j0_eq (rec:Rec) (k:Nat):∀ x0 x2 x17 H,j0 rec k x0 x2 x17 H=ex PP o rec k (sub body [1,0,1]) (St.of 35 [(0,.sl 1 x0),(2,.sl 1 x2),(17,.bool x17)] []) H (kAt PP o rec k body [1,0,1] [] (K0 PP Go.Proofs.Try.f27)):=by
 intros x0 x2 x17 H
 unfold j0
 try simp only [j1_eq rec k,-eq_self]
 kernel_rfl
theorem f_eq (rec:Rec) (k:Nat):∀ a0 a1 a2 H,f rec k a0 a1 a2 H=ex PP o rec k body (St.of 35 [(0,.sl 1 a0),(1,.int .i64 a1),(2,.sl 1 a2)] []) H (K0 PP Go.Proofs.Try.f27):=by
 intros a0 a1 a2 H
 unfold f
 try simp only [j0_eq rec k,-eq_self]
 kernel_rfl
theorem call (k:Nat):∀ a0 a1 a2 H,callF PP orc (k + 1) spec_MasksHave.id [.sl 1 a0,.int .i64 a1,.sl 1 a2] H=f (callF PP orc k) k a0 a1 a2 H:=by
 intros a0 a1 a2 H
 rw [callF_at (fn:=Go.Proofs.Try.f27) (c:=body) Go.Proofs.Try.func27 (by kernel_rfl) (Nat.le_of_ble_eq_true (by kernel_rfl)),f_eq]
 kernel_rfl
end spec_MasksHave
namespace laws_within
noncomputable def body:Code:=(Go.Proofs.Try.f39).body.getD .skip
abbrev o:=orc laws_within.id
noncomputable def l0 (rec:Rec) (k:Nat):Nat→Sl→Sl→Int→Hp→An
 | 0,_,_,_,_=>none
 | n + 1,x0,x1,x5,H=>bif decide (x5 < (x0.len:Int)) then bif decide (0 ≤ (x5:Int)) && decide ((x5:Int) < x0.len) then (ldI .i64 H x0.blk (x0.off + (x5:Int).toNat * 1)).bind fun n1=>bif decide (0 ≤ (x5:Int)) && decide ((x5:Int) < x1.len) then (ldI .i64 H x1.blk (x1.off + (x5:Int).toNat * 1)).bind fun n2=>bif (IntKind.i64.wrap (((BitVec.ofInt IntKind.i64.bits n1 &&& ~~~ (BitVec.ofInt IntKind.i64.bits n2)).toNat:Int))) != 0 then some (.bool false,H) else (l0 rec k n) x0 x1 (IntKind.i64.wrap (x5 + 1)) H else none else none else some (.bool true,H)
noncomputable def f (rec:Rec) (k:Nat) (a0:Sl) (a1:Sl) (H:Hp):An:=bif (a0.len:Int) != (a1.len:Int) then some (.bool false,H) else l0 rec k k a0 a1 0 H
theorem l0_eq (rec:Rec) (k:Nat):∀ n x0 x1 x5 H,l0 rec k n x0 x1 x5 H=iter (o.at (lbody (sub body [1,1,0,1,0]))) (ex PP o rec k (lbody (sub body [1,1,0,1,0]))) (kAt PP o rec k body [1,1,0,1,0] [] (K0 PP Go.Proofs.Try.f39)) n (St.of 27 [(0,.sl 1 x0),(1,.sl 1 x1),(5,.int .i64 x5)] []) H:=by
 intro n
 induction n with
 | zero=>intros; rfl
 | succ n ih=>
  intros x0 x1 x5 H
  simp only [l0,ih,-eq_self]
  kernel_rfl
theorem f_eq (rec:Rec) (k:Nat):∀ a0 a1 H,f rec k a0 a1 H=ex PP o rec k body (St.of 27 [(0,.sl 1 a0),(1,.sl 1 a1)] []) H (K0 PP Go.Proofs.Try.f39):=by
 intros a0 a1 H
 unfold f
 try simp only [l0_eq rec k,-eq_self]
 kernel_rfl
theorem call (k:Nat):∀ a0 a1 H,callF PP orc (k + 1) laws_within.id [.sl 1 a0,.sl 1 a1] H=f (callF PP orc k) k a0 a1 H:=by
 intros a0 a1 H
 rw [callF_at (fn:=Go.Proofs.Try.f39) (c:=body) Go.Proofs.Try.func39 (by kernel_rfl) (Nat.le_of_ble_eq_true (by kernel_rfl)),f_eq]
 kernel_rfl
end laws_within
namespace laws_sameInts
noncomputable def body:Code:=(Go.Proofs.Try.f32).body.getD .skip
abbrev o:=orc laws_sameInts.id
noncomputable def l0 (rec:Rec) (k:Nat):Nat→Sl→Sl→Int→Hp→An
 | 0,_,_,_,_=>none
 | n + 1,x0,x1,x5,H=>bif decide (x5 < (x0.len:Int)) then bif decide (0 ≤ (x5:Int)) && decide ((x5:Int) < x0.len) then (ldI .i64 H x0.blk (x0.off + (x5:Int).toNat * 1)).bind fun n1=>bif decide (0 ≤ (x5:Int)) && decide ((x5:Int) < x1.len) then (ldI .i64 H x1.blk (x1.off + (x5:Int).toNat * 1)).bind fun n2=>bif n1 != n2 then some (.bool false,H) else (l0 rec k n) x0 x1 (IntKind.i64.wrap (x5 + 1)) H else none else none else some (.bool true,H)
noncomputable def f (rec:Rec) (k:Nat) (a0:Sl) (a1:Sl) (H:Hp):An:=bif (a0.len:Int) != (a1.len:Int) then some (.bool false,H) else l0 rec k k a0 a1 0 H
theorem l0_eq (rec:Rec) (k:Nat):∀ n x0 x1 x5 H,l0 rec k n x0 x1 x5 H=iter (o.at (lbody (sub body [1,1,0,1,0]))) (ex PP o rec k (lbody (sub body [1,1,0,1,0]))) (kAt PP o rec k body [1,1,0,1,0] [] (K0 PP Go.Proofs.Try.f32)) n (St.of 26 [(0,.sl 1 x0),(1,.sl 1 x1),(5,.int .i64 x5)] []) H:=by
 intro n
 induction n with
 | zero=>intros; rfl
 | succ n ih=>
  intros x0 x1 x5 H
  simp only [l0,ih,-eq_self]
  kernel_rfl
theorem f_eq (rec:Rec) (k:Nat):∀ a0 a1 H,f rec k a0 a1 H=ex PP o rec k body (St.of 26 [(0,.sl 1 a0),(1,.sl 1 a1)] []) H (K0 PP Go.Proofs.Try.f32):=by
 intros a0 a1 H
 unfold f
 try simp only [l0_eq rec k,-eq_self]
 kernel_rfl
theorem call (k:Nat):∀ a0 a1 H,callF PP orc (k + 1) laws_sameInts.id [.sl 1 a0,.sl 1 a1] H=f (callF PP orc k) k a0 a1 H:=by
 intros a0 a1 H
 rw [callF_at (fn:=Go.Proofs.Try.f32) (c:=body) Go.Proofs.Try.func32 (by kernel_rfl) (Nat.le_of_ble_eq_true (by kernel_rfl)),f_eq]
 kernel_rfl
end laws_sameInts
namespace laws_keeps
noncomputable def body:Code:=(Go.Proofs.Try.f40).body.getD .skip
abbrev o:=orc laws_keeps.id
abbrev TL0:=Sl→Sl→Int→Int→Hp→An
abbrev PhL0 (rec:Rec) (k n0:Nat) (L0:TL0):Prop:=∀ x0 x1 x2 x7 H,L0 x0 x1 x2 x7 H=iter (o.at (lbody (sub body [1,0,1,0]))) (ex PP o rec k (lbody (sub body [1,0,1,0]))) (kAt PP o rec k body [1,0,1,0] [] (K0 PP Go.Proofs.Try.f40)) n0 (St.of 30 [(0,.sl 1 x0),(1,.sl 1 x1),(2,.int .i64 x2),(7,.int .i64 x7)] []) H
noncomputable def j2 (rec:Rec) (k:Nat) (L0:TL0) (x0:Sl) (x1:Sl) (x2:Int) (x7:Int) (H:Hp):An:=L0 x0 x1 x2 (IntKind.i64.wrap (x7 + 1)) H
noncomputable def j1 (rec:Rec) (k:Nat) (L0:TL0) (x0:Sl) (x1:Sl) (x2:Int) (x7:Int) (x29:Bool) (H:Hp):An:=bif x29 then some (.bool false,H) else j2 rec k L0 x0 x1 x2 x7 H
noncomputable def l0 (rec:Rec) (k:Nat):Nat→Sl→Sl→Int→Int→Hp→An
 | 0,_,_,_,_,_=>none
 | n + 1,x0,x1,x2,x7,H=>bif decide (x7 < 14) then (rec spec_SquareNumber.id [.int .i64 x2,.int .i64 x7] H).bind fun r1=>(r1.1.toS 1).bind fun s2=>bif (s2.len:Int) == 0 then some (.bool true,r1.2) else (rec spec_MasksHave.id [.sl 1 x0,.int .i64 x2,.sl 1 s2] r1.2).bind fun r3=>r3.1.toB.bind fun b4=>bif b4 then (rec impl_MasksHave.id [.sl 1 x1,.int .i64 x2,.sl 1 s2] r3.2).bind fun r5=>r5.1.toB.bind fun b6=>j1 rec k (l0 rec k n) x0 x1 x2 x7 (!b6) r5.2 else j1 rec k (l0 rec k n) x0 x1 x2 x7 false r3.2 else some (.bool true,H)
noncomputable def f (rec:Rec) (k:Nat) (a0:Sl) (a1:Sl) (a2:Int) (H:Hp):An:=l0 rec k k a0 a1 a2 0 H
theorem j2_eq (rec:Rec) (k:Nat) (n0:Nat) (L0:TL0) (hL0:PhL0 rec k n0 L0):∀ x0 x1 x2 x7 H,j2 rec k L0 x0 x1 x2 x7 H=ex PP o rec k (sub body [1,0,1,0,0,1,1]) (St.of 30 [(0,.sl 1 x0),(1,.sl 1 x1),(2,.int .i64 x2),(7,.int .i64 x7)] []) H (kAt PP o rec k body [1,0,1,0,0,1,1] [n0] (K0 PP Go.Proofs.Try.f40)):=by
 intros x0 x1 x2 x7 H
 unfold j2
 try simp only [hL0,-eq_self]
 kernel_rfl
theorem j1_eq (rec:Rec) (k:Nat) (n0:Nat) (L0:TL0) (hL0:PhL0 rec k n0 L0):∀ x0 x1 x2 x7 x29 H,j1 rec k L0 x0 x1 x2 x7 x29 H=ex PP o rec k (sub body [1,0,1,0,0,1,0,0,1,1,1]) (St.of 30 [(0,.sl 1 x0),(1,.sl 1 x1),(2,.int .i64 x2),(7,.int .i64 x7),(29,.bool x29)] []) H (kAt PP o rec k body [1,0,1,0,0,1,0,0,1,1,1] [n0] (K0 PP Go.Proofs.Try.f40)):=by
 intros x0 x1 x2 x7 x29 H
 unfold j1
 try simp only [hL0,j2_eq rec k n0 L0 hL0,-eq_self]
 kernel_rfl
theorem l0_eq (rec:Rec) (k:Nat):∀ n x0 x1 x2 x7 H,l0 rec k n x0 x1 x2 x7 H=iter (o.at (lbody (sub body [1,0,1,0]))) (ex PP o rec k (lbody (sub body [1,0,1,0]))) (kAt PP o rec k body [1,0,1,0] [] (K0 PP Go.Proofs.Try.f40)) n (St.of 30 [(0,.sl 1 x0),(1,.sl 1 x1),(2,.int .i64 x2),(7,.int .i64 x7)] []) H:=by
 intro n
 induction n with
 | zero=>intros; rfl
 | succ n ih=>
  intros x0 x1 x2 x7 H
  simp only [l0,j1_eq rec k n (l0 rec k n) (fun x0 x1 x2 x7 H=>ih x0 x1 x2 x7 H),ih,-eq_self]
  kernel_rfl
theorem f_eq (rec:Rec) (k:Nat):∀ a0 a1 a2 H,f rec k a0 a1 a2 H=ex PP o rec k body (St.of 30 [(0,.sl 1 a0),(1,.sl 1 a1),(2,.int .i64 a2)] []) H (K0 PP Go.Proofs.Try.f40):=by
 intros a0 a1 a2 H
 unfold f
 try simp only [l0_eq rec k,-eq_self]
 kernel_rfl
theorem call (k:Nat):∀ a0 a1 a2 H,callF PP orc (k + 1) laws_keeps.id [.sl 1 a0,.sl 1 a1,.int .i64 a2] H=f (callF PP orc k) k a0 a1 a2 H:=by
 intros a0 a1 a2 H
 rw [callF_at (fn:=Go.Proofs.Try.f40) (c:=body) Go.Proofs.Try.func40 (by kernel_rfl) (Nat.le_of_ble_eq_true (by kernel_rfl)),f_eq]
 kernel_rfl
end laws_keeps
namespace impl_PairsIn
noncomputable def body:Code:=(Go.Proofs.Try.f42).body.getD .skip
abbrev o:=orc impl_PairsIn.id
abbrev TL2:=Sl→Sl→Int→Sl→Int→Int→Hp→An
abbrev TL3:=Sl→Sl→Int→Int→Sl→Int→Int→Sl→Int→Int→Hp→An
abbrev PhL2 (rec:Rec) (k n2:Nat) (L2:TL2):Prop:=∀ x0 x7 x8 x24 x25 x26 H,L2 x0 x7 x8 x24 x25 x26 H=iter (o.at (lbody (sub body [1,1,1,1,0,1,0]))) (ex PP o rec k (lbody (sub body [1,1,1,1,0,1,0]))) (kAt PP o rec k body [1,1,1,1,0,1,0] [] (K0 PP Go.Proofs.Try.f42)) n2 (St.of 63 [(0,.sl 1 x0),(7,.sl 1 x7),(8,.int .i64 x8),(24,.sl 1 x24),(25,.int .i64 x25),(26,.int .i64 x26)] []) H
abbrev PhL3 (rec:Rec) (k n2 n3:Nat) (L3:TL3):Prop:=∀ x0 x7 x8 x10 x24 x25 x26 x34 x35 x36 H,L3 x0 x7 x8 x10 x24 x25 x26 x34 x35 x36 H=iter (o.at (lbody (sub body [1,1,1,1,0,1,0,0,1,1,0,0,1,1,0]))) (ex PP o rec k (lbody (sub body [1,1,1,1,0,1,0,0,1,1,0,0,1,1,0]))) (kAt PP o rec k body [1,1,1,1,0,1,0,0,1,1,0,0,1,1,0] [n2] (K0 PP Go.Proofs.Try.f42)) n3 (St.of 63 [(0,.sl 1 x0),(7,.sl 1 x7),(8,.int .i64 x8),(10,.int .i64 x10),(24,.sl 1 x24),(25,.int .i64 x25),(26,.int .i64 x26),(34,.sl 1 x34),(35,.int .i64 x35),(36,.int .i64 x36)] []) H
noncomputable def j4 (rec:Rec) (k:Nat) (x8:Int) (H:Hp):An:=some (.int .i64 x8,H)
noncomputable def j6 (rec:Rec) (k:Nat) (L2:TL2) (x0:Sl) (x7:Sl) (x8:Int) (x24:Sl) (x25:Int) (x26:Int) (H:Hp):An:=L2 x0 x7 x8 x24 x25 (IntKind.i64.wrap (x26 + 1)) H
noncomputable def j7 (rec:Rec) (k:Nat) (L2:TL2) (L3:TL3) (x0:Sl) (x7:Sl) (x8:Int) (x10:Int) (x24:Sl) (x25:Int) (x26:Int) (x34:Sl) (x35:Int) (x36:Int) (H:Hp):An:=L3 x0 x7 x8 x10 x24 x25 x26 x34 x35 (IntKind.i64.wrap (x36 + 1)) H
noncomputable def j5 (rec:Rec) (k:Nat) (L2:TL2) (L3:TL3) (x0:Sl) (x7:Sl) (x8:Int) (x10:Int) (x24:Sl) (x25:Int) (x26:Int) (x34:Sl) (x35:Int) (x36:Int) (x57:Bool) (H:Hp):An:=bif x57 then j7 rec k L2 L3 x0 x7 (IntKind.i64.wrap (x8 + 1)) x10 x24 x25 x26 x34 x35 x36 H else j7 rec k L2 L3 x0 x7 x8 x10 x24 x25 x26 x34 x35 x36 H
noncomputable def l3 (rec:Rec) (k:Nat) (L2:TL2):Nat→Sl→Sl→Int→Int→Sl→Int→Int→Sl→Int→Int→Hp→An
 | 0,_,_,_,_,_,_,_,_,_,_,_=>none
 | n + 1,x0,x7,x8,x10,x24,x25,x26,x34,x35,x36,H=>bif decide (x36 < x35) then bif decide (0 ≤ (x36:Int)) && decide ((x36:Int) < x34.len) then (ldI .i64 H x34.blk (x34.off + (x36:Int).toNat * 1)).bind fun n6=>bif decide (0 ≤ (x10:Int)) && decide ((x10:Int) < x0.len) then (ldI .i64 H x0.blk (x0.off + (x10:Int).toNat * 1)).bind fun n7=>bif decide (0 ≤ (n6:Int)) && decide ((n6:Int) < x0.len) then (ldI .i64 H x0.blk (x0.off + (n6:Int).toNat * 1)).bind fun n8=>bif n7 == n8 then bif decide (0 ≤ (x10:Int)) && decide ((x10:Int) < x0.len) then (ldI .i64 H x0.blk (x0.off + (x10:Int).toNat * 1)).bind fun n9=>(rec math_bits_OnesCount.id [.int .u64 (IntKind.u64.wrap n9)] H).bind fun r10=>(r10.1.toI .i64).bind fun n11=>j5 rec k L2 (l3 rec k L2 n) x0 x7 x8 x10 x24 x25 x26 x34 x35 x36 (n11 == 2) r10.2 else none else j5 rec k L2 (l3 rec k L2 n) x0 x7 x8 x10 x24 x25 x26 x34 x35 x36 false H else none else none else none else j6 rec k L2 x0 x7 x8 x24 x25 x26 H
noncomputable def l2 (rec:Rec) (k:Nat):Nat→Sl→Sl→Int→Sl→Int→Int→Hp→An
 | 0,_,_,_,_,_,_,_=>none
 | n + 1,x0,x7,x8,x24,x25,x26,H=>bif decide (x26 < x25) then bif decide (0 ≤ (x26:Int)) && decide ((x26:Int) < x24.len) then (ldI .i64 H x24.blk (x24.off + (x26:Int).toNat * 1)).bind fun n5=>if (0 ≤ (IntKind.i64.wrap (x26 + 1):Int)∧(IntKind.i64.wrap (x26 + 1):Int) ≤ (x7.len:Int)∧((x7.len:Int):Int) ≤ x7.len∧((x7.len:Int):Int)=(x7.len:Int))∧0 < 1∧true=true then l3 rec k (l2 rec k n) k x0 x7 x8 n5 x24 x25 x26 (Sl.mk x7.nil x7.blk (x7.off + (IntKind.i64.wrap (x26 + 1):Int).toNat * 1) (((x7.len:Int):Int) - (IntKind.i64.wrap (x26 + 1))).toNat) ((Sl.mk x7.nil x7.blk (x7.off + (IntKind.i64.wrap (x26 + 1):Int).toNat * 1) (((x7.len:Int):Int) - (IntKind.i64.wrap (x26 + 1))).toNat).len:Int) 0 H else none else none else j4 rec k x8 H
noncomputable def j1 (rec:Rec) (k:Nat) (x0:Sl) (x7:Sl) (H:Hp):An:=l2 rec k k x0 x7 0 x7 (x7.len:Int) 0 H
noncomputable def j0 (rec:Rec) (k:Nat) (x0:Sl) (x7:Sl) (x23:Bool) (H:Hp):An:=bif x23 then some (.int .i64 (-1),H) else j1 rec k x0 x7 H
noncomputable def f (rec:Rec) (k:Nat) (a0:Sl) (a1:Int) (a2:Int) (H:Hp):An:=(rec impl_LineCells.id [.int .i64 a1,.int .i64 a2] H).bind fun r1=>(r1.1.toS 1).bind fun s2=>(rec impl_MasksValid.id [.sl 1 a0,.int .i64 a1] r1.2).bind fun r3=>r3.1.toB.bind fun b4=>bif !b4 then j0 rec k a0 s2 true r3.2 else j0 rec k a0 s2 s2.nil r3.2
theorem j4_eq (rec:Rec) (k:Nat):∀ x8 H,j4 rec k x8 H=ex PP o rec k (sub body [1,1,1,1,1]) (St.of 63 [(8,.int .i64 x8)] []) H (kAt PP o rec k body [1,1,1,1,1] [] (K0 PP Go.Proofs.Try.f42)):=by
 intros x8 H
 unfold j4
 kernel_rfl
theorem j6_eq (rec:Rec) (k:Nat) (n2:Nat) (L2:TL2) (hL2:PhL2 rec k n2 L2):∀ x0 x7 x8 x24 x25 x26 H,j6 rec k L2 x0 x7 x8 x24 x25 x26 H=ex PP o rec k (sub body [1,1,1,1,0,1,0,0,1,1,1]) (St.of 63 [(0,.sl 1 x0),(7,.sl 1 x7),(8,.int .i64 x8),(24,.sl 1 x24),(25,.int .i64 x25),(26,.int .i64 x26)] []) H (kAt PP o rec k body [1,1,1,1,0,1,0,0,1,1,1] [n2] (K0 PP Go.Proofs.Try.f42)):=by
 intros x0 x7 x8 x24 x25 x26 H
 unfold j6
 try simp only [hL2,-eq_self]
 kernel_rfl
theorem j7_eq (rec:Rec) (k:Nat) (n2:Nat) (L2:TL2) (hL2:PhL2 rec k n2 L2) (n3:Nat) (L3:TL3) (hL3:PhL3 rec k n2 n3 L3):∀ x0 x7 x8 x10 x24 x25 x26 x34 x35 x36 H,j7 rec k L2 L3 x0 x7 x8 x10 x24 x25 x26 x34 x35 x36 H=ex PP o rec k (sub body [1,1,1,1,0,1,0,0,1,1,0,0,1,1,0,0,1,1,1]) (St.of 63 [(0,.sl 1 x0),(7,.sl 1 x7),(8,.int .i64 x8),(10,.int .i64 x10),(24,.sl 1 x24),(25,.int .i64 x25),(26,.int .i64 x26),(34,.sl 1 x34),(35,.int .i64 x35),(36,.int .i64 x36)] []) H (kAt PP o rec k body [1,1,1,1,0,1,0,0,1,1,0,0,1,1,0,0,1,1,1] [n2,n3] (K0 PP Go.Proofs.Try.f42)):=by
 intros x0 x7 x8 x10 x24 x25 x26 x34 x35 x36 H
 unfold j7
 try simp only [hL2,hL3,-eq_self]
 kernel_rfl
theorem j5_eq (rec:Rec) (k:Nat) (n2:Nat) (L2:TL2) (hL2:PhL2 rec k n2 L2) (n3:Nat) (L3:TL3) (hL3:PhL3 rec k n2 n3 L3):∀ x0 x7 x8 x10 x24 x25 x26 x34 x35 x36 x57 H,j5 rec k L2 L3 x0 x7 x8 x10 x24 x25 x26 x34 x35 x36 x57 H=ex PP o rec k (sub body [1,1,1,1,0,1,0,0,1,1,0,0,1,1,0,0,1,1,0,0,1,1]) (St.of 63 [(0,.sl 1 x0),(7,.sl 1 x7),(8,.int .i64 x8),(10,.int .i64 x10),(24,.sl 1 x24),(25,.int .i64 x25),(26,.int .i64 x26),(34,.sl 1 x34),(35,.int .i64 x35),(36,.int .i64 x36),(57,.bool x57)] []) H (kAt PP o rec k body [1,1,1,1,0,1,0,0,1,1,0,0,1,1,0,0,1,1,0,0,1,1] [n2,n3] (K0 PP Go.Proofs.Try.f42)):=by
 intros x0 x7 x8 x10 x24 x25 x26 x34 x35 x36 x57 H
 unfold j5
 try simp only [hL2,hL3,j7_eq rec k n2 L2 hL2 n3 L3 hL3,-eq_self]
 kernel_rfl
theorem l3_eq (rec:Rec) (k:Nat) (n2:Nat) (L2:TL2) (hL2:PhL2 rec k n2 L2):∀ n x0 x7 x8 x10 x24 x25 x26 x34 x35 x36 H,l3 rec k L2 n x0 x7 x8 x10 x24 x25 x26 x34 x35 x36 H=iter (o.at (lbody (sub body [1,1,1,1,0,1,0,0,1,1,0,0,1,1,0]))) (ex PP o rec k (lbody (sub body [1,1,1,1,0,1,0,0,1,1,0,0,1,1,0]))) (kAt PP o rec k body [1,1,1,1,0,1,0,0,1,1,0,0,1,1,0] [n2] (K0 PP Go.Proofs.Try.f42)) n (St.of 63 [(0,.sl 1 x0),(7,.sl 1 x7),(8,.int .i64 x8),(10,.int .i64 x10),(24,.sl 1 x24),(25,.int .i64 x25),(26,.int .i64 x26),(34,.sl 1 x34),(35,.int .i64 x35),(36,.int .i64 x36)] []) H:=by
 intro n
 induction n with
 | zero=>intros; rfl
 | succ n ih=>
  intros x0 x7 x8 x10 x24 x25 x26 x34 x35 x36 H
  simp only [l3,hL2,j5_eq rec k n2 L2 hL2 n (l3 rec k L2 n) (fun x0 x7 x8 x10 x24 x25 x26 x34 x35 x36 H=>ih x0 x7 x8 x10 x24 x25 x26 x34 x35 x36 H),j6_eq rec k n2 L2 hL2,ih,-eq_self]
  kernel_rfl
theorem l2_eq (rec:Rec) (k:Nat):∀ n x0 x7 x8 x24 x25 x26 H,l2 rec k n x0 x7 x8 x24 x25 x26 H=iter (o.at (lbody (sub body [1,1,1,1,0,1,0]))) (ex PP o rec k (lbody (sub body [1,1,1,1,0,1,0]))) (kAt PP o rec k body [1,1,1,1,0,1,0] [] (K0 PP Go.Proofs.Try.f42)) n (St.of 63 [(0,.sl 1 x0),(7,.sl 1 x7),(8,.int .i64 x8),(24,.sl 1 x24),(25,.int .i64 x25),(26,.int .i64 x26)] []) H:=by
 intro n
 induction n with
 | zero=>intros; rfl
 | succ n ih=>
  intros x0 x7 x8 x24 x25 x26 H
  simp only [l2,l3_eq rec k n (l2 rec k n) (fun x0 x7 x8 x24 x25 x26 H=>ih x0 x7 x8 x24 x25 x26 H),j4_eq rec k,ih,-eq_self]
  kernel_rfl
theorem j1_eq (rec:Rec) (k:Nat):∀ x0 x7 H,j1 rec k x0 x7 H=ex PP o rec k (sub body [1,1,1]) (St.of 63 [(0,.sl 1 x0),(7,.sl 1 x7)] []) H (kAt PP o rec k body [1,1,1] [] (K0 PP Go.Proofs.Try.f42)):=by
 intros x0 x7 H
 unfold j1
 try simp only [l2_eq rec k,-eq_self]
 kernel_rfl
theorem j0_eq (rec:Rec) (k:Nat):∀ x0 x7 x23 H,j0 rec k x0 x7 x23 H=ex PP o rec k (sub body [1,1,0,1]) (St.of 63 [(0,.sl 1 x0),(7,.sl 1 x7),(23,.bool x23)] []) H (kAt PP o rec k body [1,1,0,1] [] (K0 PP Go.Proofs.Try.f42)):=by
 intros x0 x7 x23 H
 unfold j0
 try simp only [j1_eq rec k,-eq_self]
 kernel_rfl
theorem f_eq (rec:Rec) (k:Nat):∀ a0 a1 a2 H,f rec k a0 a1 a2 H=ex PP o rec k body (St.of 63 [(0,.sl 1 a0),(1,.int .i64 a1),(2,.int .i64 a2)] []) H (K0 PP Go.Proofs.Try.f42):=by
 intros a0 a1 a2 H
 unfold f
 try simp only [j0_eq rec k,-eq_self]
 kernel_rfl
theorem call (k:Nat):∀ a0 a1 a2 H,callF PP orc (k + 1) impl_PairsIn.id [.sl 1 a0,.int .i64 a1,.int .i64 a2] H=f (callF PP orc k) k a0 a1 a2 H:=by
 intros a0 a1 a2 H
 rw [callF_at (fn:=Go.Proofs.Try.f42) (c:=body) Go.Proofs.Try.func42 (by kernel_rfl) (Nat.le_of_ble_eq_true (by kernel_rfl)),f_eq]
 kernel_rfl
end impl_PairsIn
namespace laws_FnNarrowPairs
noncomputable def body:Code:=(Go.Proofs.Try.f11).body.getD .skip
abbrev o:=orc laws_FnNarrowPairs.id
noncomputable def j1 (rec:Rec) (k:Nat) (x3:Sl) (x4:Int) (x5:Sl) (x6:Int) (H:Hp):An:=(rec laws_within.id [.sl 1 x5,.sl 1 x3] H).bind fun r16=>r16.1.toB.bind fun b17=>bif b17 then (rec laws_keeps.id [.sl 1 x3,.sl 1 x5,.int .i64 x4] r16.2).bind fun r18=>r18.1.toB.bind fun b19=>bif b19 then bif decide (x6 > 0) then some (.bool true,r18.2) else (rec laws_sameInts.id [.sl 1 x5,.sl 1 x3] r18.2).bind fun r20=>r20.1.toB.bind fun b21=>some (.bool b21,r20.2) else some (.bool false,r18.2) else some (.bool false,r16.2)
noncomputable def l0 (rec:Rec) (k:Nat):Nat→Sl→Int→Sl→Int→Int→Hp→An
 | 0,_,_,_,_,_,_=>none
 | n + 1,x3,x4,x5,x6,x7,H=>bif decide (x7 < (IntKind.i64.wrap (2 * x4))) then (rec impl_PairsIn.id [.sl 1 x3,.int .i64 x4,.int .i64 x7] H).bind fun r14=>(r14.1.toI .i64).bind fun n15=>(l0 rec k n) x3 x4 x5 (IntKind.i64.wrap (x6 + n15)) (IntKind.i64.wrap (x7 + 1)) r14.2 else j1 rec k x3 x4 x5 x6 H
noncomputable def f (rec:Rec) (k:Nat) (a0:Sl) (H:Hp):An:=bif decide ((a0.len:Int) > 1048576) then some (.bool true,H) else (rec spec_DrawNarrowPairs.id [.sl 1 a0] H).bind fun r1=>bif r1.1.isTup 2 then ((r1.1.nth 0).toS 1).bind fun s2=>((r1.1.nth 1).toI .i64).bind fun n3=>(rec impl_NarrowPairs.id [.sl 1 s2,.int .i64 n3] r1.2).bind fun r4=>(r4.1.toS 1).bind fun s5=>(rec spec_NarrowPairs.id [.sl 1 s2,.int .i64 n3] r4.2).bind fun r6=>(r6.1.toS 1).bind fun s7=>(rec laws_sameInts.id [.sl 1 s5,.sl 1 s7] r6.2).bind fun r8=>r8.1.toB.bind fun b9=>bif !b9 then some (.bool false,r8.2) else (rec spec_MasksValid.id [.sl 1 s2,.int .i64 n3] r8.2).bind fun r10=>r10.1.toB.bind fun b11=>bif !b11 then bif (s5.len:Int) == 0 then (rec laws_alive.id [] r10.2).bind fun r12=>r12.1.toB.bind fun b13=>some (.bool b13,r12.2) else some (.bool false,r10.2) else l0 rec k k s2 n3 s5 0 0 r10.2 else none
theorem j1_eq (rec:Rec) (k:Nat):∀ x3 x4 x5 x6 H,j1 rec k x3 x4 x5 x6 H=ex PP o rec k (sub body [1,1,1,1,1,1,1,1]) (St.of 65 [(3,.sl 1 x3),(4,.int .i64 x4),(5,.sl 1 x5),(6,.int .i64 x6)] []) H (kAt PP o rec k body [1,1,1,1,1,1,1,1] [] (K0 PP Go.Proofs.Try.f11)):=by
 intros x3 x4 x5 x6 H
 unfold j1
 kernel_rfl
theorem l0_eq (rec:Rec) (k:Nat):∀ n x3 x4 x5 x6 x7 H,l0 rec k n x3 x4 x5 x6 x7 H=iter (o.at (lbody (sub body [1,1,1,1,1,1,1,0,1,0]))) (ex PP o rec k (lbody (sub body [1,1,1,1,1,1,1,0,1,0]))) (kAt PP o rec k body [1,1,1,1,1,1,1,0,1,0] [] (K0 PP Go.Proofs.Try.f11)) n (St.of 65 [(3,.sl 1 x3),(4,.int .i64 x4),(5,.sl 1 x5),(6,.int .i64 x6),(7,.int .i64 x7)] []) H:=by
 intro n
 induction n with
 | zero=>intros; rfl
 | succ n ih=>
  intros x3 x4 x5 x6 x7 H
  simp only [l0,j1_eq rec k,ih,-eq_self]
  kernel_rfl
theorem f_eq (rec:Rec) (k:Nat):∀ a0 H,f rec k a0 H=ex PP o rec k body (St.of 65 [(0,.sl 1 a0)] []) H (K0 PP Go.Proofs.Try.f11):=by
 intros a0 H
 unfold f
 try simp only [l0_eq rec k,-eq_self]
 kernel_rfl
theorem call (k:Nat):∀ a0 H,callF PP orc (k + 1) laws_FnNarrowPairs.id [.sl 1 a0] H=f (callF PP orc k) k a0 H:=by
 intros a0 H
 rw [callF_at (fn:=Go.Proofs.Try.f11) (c:=body) Go.Proofs.Try.func11 (by kernel_rfl) (Nat.le_of_ble_eq_true (by kernel_rfl)),f_eq]
 kernel_rfl
end laws_FnNarrowPairs
end Go.Proofs.Ytjojhbdghhmeeaa.Rp
