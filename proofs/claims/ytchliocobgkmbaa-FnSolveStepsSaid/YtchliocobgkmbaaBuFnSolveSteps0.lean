/- Texts for the row of the law FnSolveSteps, part 0: the plain machine, the program's functions on it, what they come to. No conditions. -/
import Derived.Test.YtchliocobgkmbaaAb
import Derived.Test.YtchliocobgkmbaaOr
set_option linter.unusedVariables false
set_option linter.unusedSimpArgs false
set_option maxRecDepth 100000
namespace Go.Proofs.Ytchliocobgkmbaa.Rp
open Go Go.Proofs.Ytchliocobgkmbaa.Ab
namespace impl_sizeOk
noncomputable def body:Code:=(Go.Proofs.Try.f74).body.getD .skip
noncomputable def f (rec:Rec) (k:Nat) (a0:Int) (H:Hp):An:=bif decide (a0 ≥ 2) then some (.bool (decide (a0 ≤ 4)),H) else some (.bool false,H)
theorem f_eq (rec:Rec) (k:Nat):∀ a0 H,f rec k a0 H=ex PP (orc impl_sizeOk.id) rec k body (St.of 9 [(0,.int .i64 a0)] []) H (K0 PP Go.Proofs.Try.f74):=by
 intros a0 H
 unfold f
 kernel_rfl
theorem call (k:Nat):∀ a0 H,callF PP orc (k + 1) impl_sizeOk.id [.int .i64 a0] H=f (callF PP orc k) k a0 H:=by
 intros a0 H
 rw [callF_at (fn:=Go.Proofs.Try.f74) (c:=body) Go.Proofs.Try.func74 (by kernel_rfl) (Nat.le_of_ble_eq_true (by kernel_rfl)),f_eq]
 kernel_rfl
end impl_sizeOk
namespace spec_l1In
noncomputable def body:Code:=(Go.Proofs.Try.f71).body.getD .skip
noncomputable def f (rec:Rec) (k:Nat) (a0:Int) (a1:Int) (a2:Int) (H:Hp):An:=bif decide (a0 ≥ a1) then some (.bool (decide (a0 ≤ a2)),H) else some (.bool false,H)
theorem f_eq (rec:Rec) (k:Nat):∀ a0 a1 a2 H,f rec k a0 a1 a2 H=ex PP (orc spec_l1In.id) rec k body (St.of 15 [(0,.int .i64 a0),(1,.int .i64 a1),(2,.int .i64 a2)] []) H (K0 PP Go.Proofs.Try.f71):=by
 intros a0 a1 a2 H
 unfold f
 kernel_rfl
theorem call (k:Nat):∀ a0 a1 a2 H,callF PP orc (k + 1) spec_l1In.id [.int .i64 a0,.int .i64 a1,.int .i64 a2] H=f (callF PP orc k) k a0 a1 a2 H:=by
 intros a0 a1 a2 H
 rw [callF_at (fn:=Go.Proofs.Try.f71) (c:=body) Go.Proofs.Try.func71 (by kernel_rfl) (Nat.le_of_ble_eq_true (by kernel_rfl)),f_eq]
 kernel_rfl
end spec_l1In
namespace impl_GridValid
noncomputable def body:Code:=(Go.Proofs.Try.f59).body.getD .skip
abbrev o:=orc impl_GridValid.id
abbrev TL2:=Int→Sl→Int→Int→Hp→An
abbrev PhL2 (rec:Rec) (k n2:Nat) (L2:TL2):Prop:=∀ x1 x18 x19 x20 H,L2 x1 x18 x19 x20 H=iter (o.at (lbody (sub body [1,1,0,1,0]))) (ex PP o rec k (lbody (sub body [1,1,0,1,0]))) (kAt PP o rec k body [1,1,0,1,0] [] (K0 PP Go.Proofs.Try.f59)) n2 (St.of 32 [(1,.int .i64 x1),(18,.sl 1 x18),(19,.int .i64 x19),(20,.int .i64 x20)] []) H
noncomputable def j4 (rec:Rec) (k:Nat) (L2:TL2) (x1:Int) (x18:Sl) (x19:Int) (x20:Int) (H:Hp):An:=L2 x1 x18 x19 (IntKind.i64.wrap (x20 + 1)) H
noncomputable def j3 (rec:Rec) (k:Nat) (L2:TL2) (x1:Int) (x18:Sl) (x19:Int) (x20:Int) (x30:Bool) (H:Hp):An:=bif x30 then some (.bool false,H) else j4 rec k L2 x1 x18 x19 x20 H
noncomputable def l2 (rec:Rec) (k:Nat):Nat→Int→Sl→Int→Int→Hp→An
 | 0,_,_,_,_,_=>none
 | n + 1,x1,x18,x19,x20,H=>bif decide (x20 < x19) then bif decide (0 ≤ (x20:Int)) && decide ((x20:Int) < x18.len) then (ldI .i64 H x18.blk (x18.off + (x20:Int).toNat * 1)).bind fun n3=>bif decide (n3 < 0) then j3 rec k (l2 rec k n) x1 x18 x19 x20 true H else j3 rec k (l2 rec k n) x1 x18 x19 x20 (decide (n3 > x1)) H else none else some (.bool true,H)
noncomputable def j1 (rec:Rec) (k:Nat) (x0:Sl) (x1:Int) (H:Hp):An:=l2 rec k k x1 x0 (x0.len:Int) 0 H
noncomputable def j0 (rec:Rec) (k:Nat) (x0:Sl) (x1:Int) (x17:Bool) (H:Hp):An:=bif x17 then some (.bool false,H) else j1 rec k x0 x1 H
noncomputable def f (rec:Rec) (k:Nat) (a0:Sl) (a1:Int) (H:Hp):An:=(rec impl_sizeOk.id [.int .i64 a1] H).bind fun r1=>r1.1.toB.bind fun b2=>bif !b2 then j0 rec k a0 a1 true r1.2 else j0 rec k a0 a1 ((a0.len:Int) != (IntKind.i64.wrap (a1 * a1))) r1.2
theorem j4_eq (rec:Rec) (k:Nat) (n2:Nat) (L2:TL2) (hL2:PhL2 rec k n2 L2):∀ x1 x18 x19 x20 H,j4 rec k L2 x1 x18 x19 x20 H=ex PP o rec k (sub body [1,1,0,1,0,0,1,1,1]) (St.of 32 [(1,.int .i64 x1),(18,.sl 1 x18),(19,.int .i64 x19),(20,.int .i64 x20)] []) H (kAt PP o rec k body [1,1,0,1,0,0,1,1,1] [n2] (K0 PP Go.Proofs.Try.f59)):=by
 intros x1 x18 x19 x20 H
 unfold j4
 try simp only [hL2,-eq_self]
 kernel_rfl
theorem j3_eq (rec:Rec) (k:Nat) (n2:Nat) (L2:TL2) (hL2:PhL2 rec k n2 L2):∀ x1 x18 x19 x20 x30 H,j3 rec k L2 x1 x18 x19 x20 x30 H=ex PP o rec k (sub body [1,1,0,1,0,0,1,1,0,0,1,1]) (St.of 32 [(1,.int .i64 x1),(18,.sl 1 x18),(19,.int .i64 x19),(20,.int .i64 x20),(30,.bool x30)] []) H (kAt PP o rec k body [1,1,0,1,0,0,1,1,0,0,1,1] [n2] (K0 PP Go.Proofs.Try.f59)):=by
 intros x1 x18 x19 x20 x30 H
 unfold j3
 try simp only [hL2,j4_eq rec k n2 L2 hL2,-eq_self]
 kernel_rfl
theorem l2_eq (rec:Rec) (k:Nat):∀ n x1 x18 x19 x20 H,l2 rec k n x1 x18 x19 x20 H=iter (o.at (lbody (sub body [1,1,0,1,0]))) (ex PP o rec k (lbody (sub body [1,1,0,1,0]))) (kAt PP o rec k body [1,1,0,1,0] [] (K0 PP Go.Proofs.Try.f59)) n (St.of 32 [(1,.int .i64 x1),(18,.sl 1 x18),(19,.int .i64 x19),(20,.int .i64 x20)] []) H:=by
 intro n
 induction n with
 | zero=>intros; rfl
 | succ n ih=>
  intros x1 x18 x19 x20 H
  simp only [l2,j3_eq rec k n (l2 rec k n) (fun x1 x18 x19 x20 H=>ih x1 x18 x19 x20 H),ih,-eq_self]
  kernel_rfl
theorem j1_eq (rec:Rec) (k:Nat):∀ x0 x1 H,j1 rec k x0 x1 H=ex PP o rec k (sub body [1,1]) (St.of 32 [(0,.sl 1 x0),(1,.int .i64 x1)] []) H (kAt PP o rec k body [1,1] [] (K0 PP Go.Proofs.Try.f59)):=by
 intros x0 x1 H
 unfold j1
 try simp only [l2_eq rec k,-eq_self]
 kernel_rfl
theorem j0_eq (rec:Rec) (k:Nat):∀ x0 x1 x17 H,j0 rec k x0 x1 x17 H=ex PP o rec k (sub body [1,0,1]) (St.of 32 [(0,.sl 1 x0),(1,.int .i64 x1),(17,.bool x17)] []) H (kAt PP o rec k body [1,0,1] [] (K0 PP Go.Proofs.Try.f59)):=by
 intros x0 x1 x17 H
 unfold j0
 try simp only [j1_eq rec k,-eq_self]
 kernel_rfl
theorem f_eq (rec:Rec) (k:Nat):∀ a0 a1 H,f rec k a0 a1 H=ex PP o rec k body (St.of 32 [(0,.sl 1 a0),(1,.int .i64 a1)] []) H (K0 PP Go.Proofs.Try.f59):=by
 intros a0 a1 H
 unfold f
 try simp only [j0_eq rec k,-eq_self]
 kernel_rfl
theorem call (k:Nat):∀ a0 a1 H,callF PP orc (k + 1) impl_GridValid.id [.sl 1 a0,.int .i64 a1] H=f (callF PP orc k) k a0 a1 H:=by
 intros a0 a1 H
 rw [callF_at (fn:=Go.Proofs.Try.f59) (c:=body) Go.Proofs.Try.func59 (by kernel_rfl) (Nat.le_of_ble_eq_true (by kernel_rfl)),f_eq]
 kernel_rfl
end impl_GridValid
namespace spec_GridValid
noncomputable def body:Code:=(Go.Proofs.Try.f70).body.getD .skip
abbrev o:=orc spec_GridValid.id
noncomputable def j1 (rec:Rec) (k:Nat) (x0:Sl) (x1:Int) (H:Hp):An:=(rec spec_l1In.id [.int .i64 x1,.int .i64 2,.int .i64 4] H).bind fun r4=>r4.1.toB.bind fun b5=>bif b5 then some (.bool ((x0.len:Int) == (IntKind.i64.wrap (x1 * x1))),r4.2) else some (.bool false,r4.2)
noncomputable def l0 (rec:Rec) (k:Nat):Nat→Sl→Int→Int→Hp→An
 | 0,_,_,_,_=>none
 | n + 1,x0,x1,x5,H=>bif decide (x5 < (x0.len:Int)) then bif decide (0 ≤ (x5:Int)) && decide ((x5:Int) < x0.len) then (ldI .i64 H x0.blk (x0.off + (x5:Int).toNat * 1)).bind fun n1=>(rec spec_l1In.id [.int .i64 n1,.int .i64 0,.int .i64 x1] H).bind fun r2=>r2.1.toB.bind fun b3=>bif !b3 then some (.bool false,r2.2) else (l0 rec k n) x0 x1 (IntKind.i64.wrap (x5 + 1)) r2.2 else none else j1 rec k x0 x1 H
noncomputable def f (rec:Rec) (k:Nat) (a0:Sl) (a1:Int) (H:Hp):An:=l0 rec k k a0 a1 0 H
theorem j1_eq (rec:Rec) (k:Nat):∀ x0 x1 H,j1 rec k x0 x1 H=ex PP o rec k (sub body [1,1]) (St.of 29 [(0,.sl 1 x0),(1,.int .i64 x1)] []) H (kAt PP o rec k body [1,1] [] (K0 PP Go.Proofs.Try.f70)):=by
 intros x0 x1 H
 unfold j1
 kernel_rfl
theorem l0_eq (rec:Rec) (k:Nat):∀ n x0 x1 x5 H,l0 rec k n x0 x1 x5 H=iter (o.at (lbody (sub body [1,0,1,0]))) (ex PP o rec k (lbody (sub body [1,0,1,0]))) (kAt PP o rec k body [1,0,1,0] [] (K0 PP Go.Proofs.Try.f70)) n (St.of 29 [(0,.sl 1 x0),(1,.int .i64 x1),(5,.int .i64 x5)] []) H:=by
 intro n
 induction n with
 | zero=>intros; rfl
 | succ n ih=>
  intros x0 x1 x5 H
  simp only [l0,j1_eq rec k,ih,-eq_self]
  kernel_rfl
theorem f_eq (rec:Rec) (k:Nat):∀ a0 a1 H,f rec k a0 a1 H=ex PP o rec k body (St.of 29 [(0,.sl 1 a0),(1,.int .i64 a1)] []) H (K0 PP Go.Proofs.Try.f70):=by
 intros a0 a1 H
 unfold f
 try simp only [l0_eq rec k,-eq_self]
 kernel_rfl
theorem call (k:Nat):∀ a0 a1 H,callF PP orc (k + 1) spec_GridValid.id [.sl 1 a0,.int .i64 a1] H=f (callF PP orc k) k a0 a1 H:=by
 intros a0 a1 H
 rw [callF_at (fn:=Go.Proofs.Try.f70) (c:=body) Go.Proofs.Try.func70 (by kernel_rfl) (Nat.le_of_ble_eq_true (by kernel_rfl)),f_eq]
 kernel_rfl
end spec_GridValid
namespace impl_GridFilled
noncomputable def body:Code:=(Go.Proofs.Try.f18).body.getD .skip
abbrev o:=orc impl_GridFilled.id
noncomputable def j1 (rec:Rec) (k:Nat) (L0:Int→Sl→Int→Int→Hp→An) (x5:Int) (x12:Sl) (x13:Int) (x14:Int) (H:Hp):An:=L0 x5 x12 x13 (IntKind.i64.wrap (x14 + 1)) H
noncomputable def j2 (rec:Rec) (k:Nat) (x5:Int) (H:Hp):An:=some (.int .i64 x5,H)
noncomputable def l0 (rec:Rec) (k:Nat):Nat→Int→Sl→Int→Int→Hp→An
 | 0,_,_,_,_,_=>none
 | n + 1,x5,x12,x13,x14,H=>bif decide (x14 < x13) then bif decide (0 ≤ (x14:Int)) && decide ((x14:Int) < x12.len) then (ldI .i64 H x12.blk (x12.off + (x14:Int).toNat * 1)).bind fun n3=>bif decide (n3 > 0) then j1 rec k (l0 rec k n) (IntKind.i64.wrap (x5 + 1)) x12 x13 x14 H else j1 rec k (l0 rec k n) x5 x12 x13 x14 H else none else j2 rec k x5 H
noncomputable def f (rec:Rec) (k:Nat) (a0:Sl) (a1:Int) (H:Hp):An:=(rec impl_GridValid.id [.sl 1 a0,.int .i64 a1] H).bind fun r1=>r1.1.toB.bind fun b2=>bif !b2 then some (.int .i64 (-1),r1.2) else l0 rec k k 0 a0 (a0.len:Int) 0 r1.2
theorem j1_eq (rec:Rec) (k:Nat) (n0:Nat) (L0:Int→Sl→Int→Int→Hp→An) (hL0:∀ x5 x12 x13 x14 H,L0 x5 x12 x13 x14 H=iter (o.at (lbody (sub body [1,1,1,0,1,0]))) (ex PP o rec k (lbody (sub body [1,1,1,0,1,0]))) (kAt PP o rec k body [1,1,1,0,1,0] [] (K0 PP Go.Proofs.Try.f18)) n0 (St.of 24 [(5,.int .i64 x5),(12,.sl 1 x12),(13,.int .i64 x13),(14,.int .i64 x14)] []) H):∀ x5 x12 x13 x14 H,j1 rec k L0 x5 x12 x13 x14 H=ex PP o rec k (sub body [1,1,1,0,1,0,0,1,1,1]) (St.of 24 [(5,.int .i64 x5),(12,.sl 1 x12),(13,.int .i64 x13),(14,.int .i64 x14)] []) H (kAt PP o rec k body [1,1,1,0,1,0,0,1,1,1] [n0] (K0 PP Go.Proofs.Try.f18)):=by
 intros x5 x12 x13 x14 H
 unfold j1
 try simp only [hL0,-eq_self]
 kernel_rfl
theorem j2_eq (rec:Rec) (k:Nat):∀ x5 H,j2 rec k x5 H=ex PP o rec k (sub body [1,1,1,1]) (St.of 24 [(5,.int .i64 x5)] []) H (kAt PP o rec k body [1,1,1,1] [] (K0 PP Go.Proofs.Try.f18)):=by
 intros x5 H
 unfold j2
 kernel_rfl
theorem l0_eq (rec:Rec) (k:Nat):∀ n x5 x12 x13 x14 H,l0 rec k n x5 x12 x13 x14 H=iter (o.at (lbody (sub body [1,1,1,0,1,0]))) (ex PP o rec k (lbody (sub body [1,1,1,0,1,0]))) (kAt PP o rec k body [1,1,1,0,1,0] [] (K0 PP Go.Proofs.Try.f18)) n (St.of 24 [(5,.int .i64 x5),(12,.sl 1 x12),(13,.int .i64 x13),(14,.int .i64 x14)] []) H:=by
 intro n
 induction n with
 | zero=>intros; rfl
 | succ n ih=>
  intros x5 x12 x13 x14 H
  simp only [l0,j1_eq rec k n (l0 rec k n) (fun x5 x12 x13 x14 H=>ih x5 x12 x13 x14 H),j2_eq rec k,ih,-eq_self]
  kernel_rfl
theorem f_eq (rec:Rec) (k:Nat):∀ a0 a1 H,f rec k a0 a1 H=ex PP o rec k body (St.of 24 [(0,.sl 1 a0),(1,.int .i64 a1)] []) H (K0 PP Go.Proofs.Try.f18):=by
 intros a0 a1 H
 unfold f
 try simp only [l0_eq rec k,-eq_self]
 kernel_rfl
theorem call (k:Nat):∀ a0 a1 H,callF PP orc (k + 1) impl_GridFilled.id [.sl 1 a0,.int .i64 a1] H=f (callF PP orc k) k a0 a1 H:=by
 intros a0 a1 H
 rw [callF_at (fn:=Go.Proofs.Try.f18) (c:=body) Go.Proofs.Try.func18 (by kernel_rfl) (Nat.le_of_ble_eq_true (by kernel_rfl)),f_eq]
 kernel_rfl
end impl_GridFilled
namespace spec_GridFilled
noncomputable def body:Code:=(Go.Proofs.Try.f83).body.getD .skip
abbrev o:=orc spec_GridFilled.id
noncomputable def j1 (rec:Rec) (k:Nat) (L0:Sl→Int→Int→Hp→An) (x0:Sl) (x5:Int) (x6:Int) (H:Hp):An:=L0 x0 x5 (IntKind.i64.wrap (x6 + 1)) H
noncomputable def j2 (rec:Rec) (k:Nat) (x5:Int) (H:Hp):An:=some (.int .i64 x5,H)
noncomputable def l0 (rec:Rec) (k:Nat):Nat→Sl→Int→Int→Hp→An
 | 0,_,_,_,_=>none
 | n + 1,x0,x5,x6,H=>bif decide (x6 < (x0.len:Int)) then bif decide (0 ≤ (x6:Int)) && decide ((x6:Int) < x0.len) then (ldI .i64 H x0.blk (x0.off + (x6:Int).toNat * 1)).bind fun n3=>bif decide (n3 > 0) then j1 rec k (l0 rec k n) x0 (IntKind.i64.wrap (x5 + 1)) x6 H else j1 rec k (l0 rec k n) x0 x5 x6 H else none else j2 rec k x5 H
noncomputable def f (rec:Rec) (k:Nat) (a0:Sl) (a1:Int) (H:Hp):An:=(rec spec_GridValid.id [.sl 1 a0,.int .i64 a1] H).bind fun r1=>r1.1.toB.bind fun b2=>bif !b2 then some (.int .i64 (-1),r1.2) else l0 rec k k a0 0 0 r1.2
theorem j1_eq (rec:Rec) (k:Nat) (n0:Nat) (L0:Sl→Int→Int→Hp→An) (hL0:∀ x0 x5 x6 H,L0 x0 x5 x6 H=iter (o.at (lbody (sub body [1,1,1,0,1,0]))) (ex PP o rec k (lbody (sub body [1,1,1,0,1,0]))) (kAt PP o rec k body [1,1,1,0,1,0] [] (K0 PP Go.Proofs.Try.f83)) n0 (St.of 25 [(0,.sl 1 x0),(5,.int .i64 x5),(6,.int .i64 x6)] []) H):∀ x0 x5 x6 H,j1 rec k L0 x0 x5 x6 H=ex PP o rec k (sub body [1,1,1,0,1,0,0,1,1]) (St.of 25 [(0,.sl 1 x0),(5,.int .i64 x5),(6,.int .i64 x6)] []) H (kAt PP o rec k body [1,1,1,0,1,0,0,1,1] [n0] (K0 PP Go.Proofs.Try.f83)):=by
 intros x0 x5 x6 H
 unfold j1
 try simp only [hL0,-eq_self]
 kernel_rfl
theorem j2_eq (rec:Rec) (k:Nat):∀ x5 H,j2 rec k x5 H=ex PP o rec k (sub body [1,1,1,1]) (St.of 25 [(5,.int .i64 x5)] []) H (kAt PP o rec k body [1,1,1,1] [] (K0 PP Go.Proofs.Try.f83)):=by
 intros x5 H
 unfold j2
 kernel_rfl
theorem l0_eq (rec:Rec) (k:Nat):∀ n x0 x5 x6 H,l0 rec k n x0 x5 x6 H=iter (o.at (lbody (sub body [1,1,1,0,1,0]))) (ex PP o rec k (lbody (sub body [1,1,1,0,1,0]))) (kAt PP o rec k body [1,1,1,0,1,0] [] (K0 PP Go.Proofs.Try.f83)) n (St.of 25 [(0,.sl 1 x0),(5,.int .i64 x5),(6,.int .i64 x6)] []) H:=by
 intro n
 induction n with
 | zero=>intros; rfl
 | succ n ih=>
  intros x0 x5 x6 H
  simp only [l0,j1_eq rec k n (l0 rec k n) (fun x0 x5 x6 H=>ih x0 x5 x6 H),j2_eq rec k,ih,-eq_self]
  kernel_rfl
theorem f_eq (rec:Rec) (k:Nat):∀ a0 a1 H,f rec k a0 a1 H=ex PP o rec k body (St.of 25 [(0,.sl 1 a0),(1,.int .i64 a1)] []) H (K0 PP Go.Proofs.Try.f83):=by
 intros a0 a1 H
 unfold f
 try simp only [l0_eq rec k,-eq_self]
 kernel_rfl
theorem call (k:Nat):∀ a0 a1 H,callF PP orc (k + 1) spec_GridFilled.id [.sl 1 a0,.int .i64 a1] H=f (callF PP orc k) k a0 a1 H:=by
 intros a0 a1 H
 rw [callF_at (fn:=Go.Proofs.Try.f83) (c:=body) Go.Proofs.Try.func83 (by kernel_rfl) (Nat.le_of_ble_eq_true (by kernel_rfl)),f_eq]
 kernel_rfl
end spec_GridFilled
namespace impl_LineCells
noncomputable def body:Code:=(Go.Proofs.Try.f34).body.getD .skip
abbrev o:=orc impl_LineCells.id
noncomputable def j3 (rec:Rec) (k:Nat) (L2:Int→Int→Sl→Int→Int→Hp→An) (x0:Int) (x1:Int) (x5:Sl) (x22:Int) (x23:Int) (H:Hp):An:=L2 x0 x1 x5 x22 (IntKind.i64.wrap (x23 + 1)) H
noncomputable def j4 (rec:Rec) (k:Nat) (x5:Sl) (H:Hp):An:=some (.sl 1 x5,H)
noncomputable def l2 (rec:Rec) (k:Nat):Nat→Int→Int→Sl→Int→Int→Hp→An
 | 0,_,_,_,_,_,_=>none
 | n + 1,x0,x1,x5,x22,x23,H=>bif decide (x23 < x22) then bif decide (x1 < x0) then (H.app 1 x5 1 [.int .i64 (IntKind.i64.wrap ((IntKind.i64.wrap (x1 * x0)) + x23))]).bind fun w3=>j3 rec k (l2 rec k n) x0 x1 w3.1 x22 x23 w3.2 else (H.app 1 x5 1 [.int .i64 (IntKind.i64.wrap ((IntKind.i64.wrap ((IntKind.i64.wrap (x23 * x0)) + x1)) - x0))]).bind fun w4=>j3 rec k (l2 rec k n) x0 x1 w4.1 x22 x23 w4.2 else j4 rec k x5 H
noncomputable def j1 (rec:Rec) (k:Nat) (x0:Int) (x1:Int) (H:Hp):An:=if 0 ≤ (0:Int)∧(0:Int) ≤ x0∧(x0:Int) ≤ 1073741824∧8 ≤ 8192∧0 < 1 then l2 rec k k x0 x1 (Sl.mk false H.length 0 (0:Int).toNat) x0 0 (H ++ [some (Blk.mk false (List.replicate (0:Int).toNat [.int .i64 0]).flatten)]) else none
noncomputable def j0 (rec:Rec) (k:Nat) (x0:Int) (x1:Int) (x19:Bool) (H:Hp):An:=bif x19 then some (.sl 1 Sl.none,H) else j1 rec k x0 x1 H
noncomputable def f (rec:Rec) (k:Nat) (a0:Int) (a1:Int) (H:Hp):An:=(rec impl_sizeOk.id [.int .i64 a0] H).bind fun r1=>r1.1.toB.bind fun b2=>bif !b2 then j0 rec k a0 a1 true r1.2 else bif decide (a1 < 0) then j0 rec k a0 a1 true r1.2 else j0 rec k a0 a1 (decide (a1 ≥ (IntKind.i64.wrap (2 * a0)))) r1.2
theorem j3_eq (rec:Rec) (k:Nat) (n2:Nat) (L2:Int→Int→Sl→Int→Int→Hp→An) (hL2:∀ x0 x1 x5 x22 x23 H,L2 x0 x1 x5 x22 x23 H=iter (o.at (lbody (sub body [1,1,1,0,1,0]))) (ex PP o rec k (lbody (sub body [1,1,1,0,1,0]))) (kAt PP o rec k body [1,1,1,0,1,0] [] (K0 PP Go.Proofs.Try.f34)) n2 (St.of 49 [(0,.int .i64 x0),(1,.int .i64 x1),(5,.sl 1 x5),(22,.int .i64 x22),(23,.int .i64 x23)] []) H):∀ x0 x1 x5 x22 x23 H,j3 rec k L2 x0 x1 x5 x22 x23 H=ex PP o rec k (sub body [1,1,1,0,1,0,0,1,1,1]) (St.of 49 [(0,.int .i64 x0),(1,.int .i64 x1),(5,.sl 1 x5),(22,.int .i64 x22),(23,.int .i64 x23)] []) H (kAt PP o rec k body [1,1,1,0,1,0,0,1,1,1] [n2] (K0 PP Go.Proofs.Try.f34)):=by
 intros x0 x1 x5 x22 x23 H
 unfold j3
 try simp only [hL2,-eq_self]
 kernel_rfl
theorem j4_eq (rec:Rec) (k:Nat):∀ x5 H,j4 rec k x5 H=ex PP o rec k (sub body [1,1,1,1]) (St.of 49 [(5,.sl 1 x5)] []) H (kAt PP o rec k body [1,1,1,1] [] (K0 PP Go.Proofs.Try.f34)):=by
 intros x5 H
 unfold j4
 kernel_rfl
theorem l2_eq (rec:Rec) (k:Nat):∀ n x0 x1 x5 x22 x23 H,l2 rec k n x0 x1 x5 x22 x23 H=iter (o.at (lbody (sub body [1,1,1,0,1,0]))) (ex PP o rec k (lbody (sub body [1,1,1,0,1,0]))) (kAt PP o rec k body [1,1,1,0,1,0] [] (K0 PP Go.Proofs.Try.f34)) n (St.of 49 [(0,.int .i64 x0),(1,.int .i64 x1),(5,.sl 1 x5),(22,.int .i64 x22),(23,.int .i64 x23)] []) H:=by
 intro n
 induction n with
 | zero=>intros; rfl
 | succ n ih=>
  intros x0 x1 x5 x22 x23 H
  simp only [l2,j3_eq rec k n (l2 rec k n) (fun x0 x1 x5 x22 x23 H=>ih x0 x1 x5 x22 x23 H),j4_eq rec k,ih,-eq_self]
  kernel_rfl
theorem j1_eq (rec:Rec) (k:Nat):∀ x0 x1 H,j1 rec k x0 x1 H=ex PP o rec k (sub body [1,1]) (St.of 49 [(0,.int .i64 x0),(1,.int .i64 x1)] []) H (kAt PP o rec k body [1,1] [] (K0 PP Go.Proofs.Try.f34)):=by
 intros x0 x1 H
 unfold j1
 try simp only [l2_eq rec k,-eq_self]
 kernel_rfl
theorem j0_eq (rec:Rec) (k:Nat):∀ x0 x1 x19 H,j0 rec k x0 x1 x19 H=ex PP o rec k (sub body [1,0,1]) (St.of 49 [(0,.int .i64 x0),(1,.int .i64 x1),(19,.bool x19)] []) H (kAt PP o rec k body [1,0,1] [] (K0 PP Go.Proofs.Try.f34)):=by
 intros x0 x1 x19 H
 unfold j0
 try simp only [j1_eq rec k,-eq_self]
 kernel_rfl
theorem f_eq (rec:Rec) (k:Nat):∀ a0 a1 H,f rec k a0 a1 H=ex PP o rec k body (St.of 49 [(0,.int .i64 a0),(1,.int .i64 a1)] []) H (K0 PP Go.Proofs.Try.f34):=by
 intros a0 a1 H
 unfold f
 try simp only [j0_eq rec k,-eq_self]
 kernel_rfl
theorem call (k:Nat):∀ a0 a1 H,callF PP orc (k + 1) impl_LineCells.id [.int .i64 a0,.int .i64 a1] H=f (callF PP orc k) k a0 a1 H:=by
 intros a0 a1 H
 rw [callF_at (fn:=Go.Proofs.Try.f34) (c:=body) Go.Proofs.Try.func34 (by kernel_rfl) (Nat.le_of_ble_eq_true (by kernel_rfl)),f_eq]
 kernel_rfl
end impl_LineCells
namespace spec_LineCells
noncomputable def body:Code:=(Go.Proofs.Try.f121).body.getD .skip
abbrev o:=orc spec_LineCells.id
abbrev TL0:=Int→Int→Sl→Int→Hp→An
abbrev PhL0 (rec:Rec) (k n0:Nat) (L0:TL0):Prop:=∀ x0 x1 x5 x6 H,L0 x0 x1 x5 x6 H=iter (o.at (lbody (sub body [1,1,0,1,0]))) (ex PP o rec k (lbody (sub body [1,1,0,1,0]))) (kAt PP o rec k body [1,1,0,1,0] [] (K0 PP Go.Proofs.Try.f121)) n0 (St.of 46 [(0,.int .i64 x0),(1,.int .i64 x1),(5,.sl 1 x5),(6,.int .i64 x6)] []) H
noncomputable def j3 (rec:Rec) (k:Nat) (x5:Sl) (H:Hp):An:=some (.sl 1 x5,H)
noncomputable def j4 (rec:Rec) (k:Nat) (L0:TL0) (x0:Int) (x1:Int) (x5:Sl) (x6:Int) (H:Hp):An:=L0 x0 x1 x5 (IntKind.i64.wrap (x6 + 1)) H
noncomputable def j2 (rec:Rec) (k:Nat) (L0:TL0) (x0:Int) (x1:Int) (x5:Sl) (x6:Int) (H:Hp):An:=bif decide (x1 < x0) then (H.app 1 x5 1 [.int .i64 (IntKind.i64.wrap ((IntKind.i64.wrap (x1 * x0)) + x6))]).bind fun w5=>j4 rec k L0 x0 x1 w5.1 x6 w5.2 else (H.app 1 x5 1 [.int .i64 (IntKind.i64.wrap ((IntKind.i64.wrap ((IntKind.i64.wrap (x6 * x0)) + x1)) - x0))]).bind fun w6=>j4 rec k L0 x0 x1 w6.1 x6 w6.2
noncomputable def j1 (rec:Rec) (k:Nat) (L0:TL0) (x0:Int) (x1:Int) (x5:Sl) (x6:Int) (x21:Bool) (H:Hp):An:=bif x21 then j2 rec k L0 x0 x1 x5 x6 H else j3 rec k x5 H
noncomputable def l0 (rec:Rec) (k:Nat):Nat→Int→Int→Sl→Int→Hp→An
 | 0,_,_,_,_,_=>none
 | n + 1,x0,x1,x5,x6,H=>bif decide (x6 < x0) then (rec spec_l1In.id [.int .i64 x0,.int .i64 2,.int .i64 4] H).bind fun r1=>r1.1.toB.bind fun b2=>bif b2 then (rec spec_l1In.id [.int .i64 x1,.int .i64 0,.int .i64 (IntKind.i64.wrap ((IntKind.i64.wrap (2 * x0)) - 1))] r1.2).bind fun r3=>r3.1.toB.bind fun b4=>j1 rec k (l0 rec k n) x0 x1 x5 x6 b4 r3.2 else j1 rec k (l0 rec k n) x0 x1 x5 x6 false r1.2 else j1 rec k (l0 rec k n) x0 x1 x5 x6 false H
noncomputable def f (rec:Rec) (k:Nat) (a0:Int) (a1:Int) (H:Hp):An:=l0 rec k k a0 a1 (Sl.mk false H.length 0 0) 0 (H ++ [some (Blk.mk false [])])
theorem j3_eq (rec:Rec) (k:Nat):∀ x5 H,j3 rec k x5 H=ex PP o rec k (sub body [1,1,1]) (St.of 46 [(5,.sl 1 x5)] []) H (kAt PP o rec k body [1,1,1] [] (K0 PP Go.Proofs.Try.f121)):=by
 intros x5 H
 unfold j3
 kernel_rfl
theorem j4_eq (rec:Rec) (k:Nat) (n0:Nat) (L0:TL0) (hL0:PhL0 rec k n0 L0):∀ x0 x1 x5 x6 H,j4 rec k L0 x0 x1 x5 x6 H=ex PP o rec k (sub body [1,1,0,1,0,0,1,1]) (St.of 46 [(0,.int .i64 x0),(1,.int .i64 x1),(5,.sl 1 x5),(6,.int .i64 x6)] []) H (kAt PP o rec k body [1,1,0,1,0,0,1,1] [n0] (K0 PP Go.Proofs.Try.f121)):=by
 intros x0 x1 x5 x6 H
 unfold j4
 try simp only [hL0,-eq_self]
 kernel_rfl
theorem j2_eq (rec:Rec) (k:Nat) (n0:Nat) (L0:TL0) (hL0:PhL0 rec k n0 L0):∀ x0 x1 x5 x6 H,j2 rec k L0 x0 x1 x5 x6 H=ex PP o rec k (sub body [1,1,0,1,0,0,1]) (St.of 46 [(0,.int .i64 x0),(1,.int .i64 x1),(5,.sl 1 x5),(6,.int .i64 x6)] []) H (kAt PP o rec k body [1,1,0,1,0,0,1] [n0] (K0 PP Go.Proofs.Try.f121)):=by
 intros x0 x1 x5 x6 H
 unfold j2
 try simp only [hL0,j4_eq rec k n0 L0 hL0,-eq_self]
 kernel_rfl
theorem j1_eq (rec:Rec) (k:Nat) (n0:Nat) (L0:TL0) (hL0:PhL0 rec k n0 L0):∀ x0 x1 x5 x6 x21 H,j1 rec k L0 x0 x1 x5 x6 x21 H=ex PP o rec k (sub body [1,1,0,1,0,0,0,1]) (St.of 46 [(0,.int .i64 x0),(1,.int .i64 x1),(5,.sl 1 x5),(6,.int .i64 x6),(21,.bool x21)] []) H (kAt PP o rec k body [1,1,0,1,0,0,0,1] [n0] (K0 PP Go.Proofs.Try.f121)):=by
 intros x0 x1 x5 x6 x21 H
 unfold j1
 try simp only [hL0,j2_eq rec k n0 L0 hL0,j3_eq rec k,-eq_self]
 kernel_rfl
theorem l0_eq (rec:Rec) (k:Nat):∀ n x0 x1 x5 x6 H,l0 rec k n x0 x1 x5 x6 H=iter (o.at (lbody (sub body [1,1,0,1,0]))) (ex PP o rec k (lbody (sub body [1,1,0,1,0]))) (kAt PP o rec k body [1,1,0,1,0] [] (K0 PP Go.Proofs.Try.f121)) n (St.of 46 [(0,.int .i64 x0),(1,.int .i64 x1),(5,.sl 1 x5),(6,.int .i64 x6)] []) H:=by
 intro n
 induction n with
 | zero=>intros; rfl
 | succ n ih=>
  intros x0 x1 x5 x6 H
  simp only [l0,j1_eq rec k n (l0 rec k n) (fun x0 x1 x5 x6 H=>ih x0 x1 x5 x6 H),ih,-eq_self]
  kernel_rfl
theorem f_eq (rec:Rec) (k:Nat):∀ a0 a1 H,f rec k a0 a1 H=ex PP o rec k body (St.of 46 [(0,.int .i64 a0),(1,.int .i64 a1)] []) H (K0 PP Go.Proofs.Try.f121):=by
 intros a0 a1 H
 unfold f
 try simp only [l0_eq rec k,-eq_self]
 kernel_rfl
theorem call (k:Nat):∀ a0 a1 H,callF PP orc (k + 1) spec_LineCells.id [.int .i64 a0,.int .i64 a1] H=f (callF PP orc k) k a0 a1 H:=by
 intros a0 a1 H
 rw [callF_at (fn:=Go.Proofs.Try.f121) (c:=body) Go.Proofs.Try.func121 (by kernel_rfl) (Nat.le_of_ble_eq_true (by kernel_rfl)),f_eq]
 kernel_rfl
end spec_LineCells
namespace spec_l2Clash
noncomputable def body:Code:=(Go.Proofs.Try.f128).body.getD .skip
abbrev o:=orc spec_l2Clash.id
abbrev TL0:=Sl→Int→Int→Hp→An
abbrev TL1:=Sl→Int→Int→Sl→Int→Int→Hp→An
abbrev PhL0 (rec:Rec) (k n0:Nat) (L0:TL0):Prop:=∀ x0 x1 x5 H,L0 x0 x1 x5 H=iter (o.at (lbody (sub body [1,0,1,0]))) (ex PP o rec k (lbody (sub body [1,0,1,0]))) (kAt PP o rec k body [1,0,1,0] [] (K0 PP Go.Proofs.Try.f128)) n0 (St.of 45 [(0,.sl 1 x0),(1,.int .i64 x1),(5,.int .i64 x5)] []) H
abbrev PhL1 (rec:Rec) (k n0 n1:Nat) (L1:TL1):Prop:=∀ x0 x1 x5 x6 x7 x8 H,L1 x0 x1 x5 x6 x7 x8 H=iter (o.at (lbody (sub body [1,0,1,0,0,1,0,0,1,1,1,0]))) (ex PP o rec k (lbody (sub body [1,0,1,0,0,1,0,0,1,1,1,0]))) (kAt PP o rec k body [1,0,1,0,0,1,0,0,1,1,1,0] [n0] (K0 PP Go.Proofs.Try.f128)) n1 (St.of 45 [(0,.sl 1 x0),(1,.int .i64 x1),(5,.int .i64 x5),(6,.sl 1 x6),(7,.int .i64 x7),(8,.int .i64 x8)] []) H
noncomputable def j3 (rec:Rec) (k:Nat) (L0:TL0) (x0:Sl) (x1:Int) (x5:Int) (H:Hp):An:=L0 x0 x1 (IntKind.i64.wrap (x5 + 1)) H
noncomputable def j5 (rec:Rec) (k:Nat) (L0:TL0) (L1:TL1) (x0:Sl) (x1:Int) (x5:Int) (x6:Sl) (x7:Int) (x8:Int) (H:Hp):An:=L1 x0 x1 x5 x6 x7 (IntKind.i64.wrap (x8 + 1)) H
noncomputable def j4 (rec:Rec) (k:Nat) (L0:TL0) (L1:TL1) (x0:Sl) (x1:Int) (x5:Int) (x6:Sl) (x7:Int) (x8:Int) (x9:Int) (H:Hp):An:=if (x9:Int) < 0 then none else j5 rec k L0 L1 x0 x1 x5 x6 (IntKind.i64.wrap (((BitVec.ofInt IntKind.i64.bits x7 ||| BitVec.ofInt IntKind.i64.bits (IntKind.i64.wrap (1 * 2 ^ (min (x9:Int).toNat IntKind.i64.bits)))).toNat:Int))) x8 H
noncomputable def j2 (rec:Rec) (k:Nat) (L0:TL0) (L1:TL1) (x0:Sl) (x1:Int) (x5:Int) (x6:Sl) (x7:Int) (x8:Int) (x9:Int) (x40:Bool) (H:Hp):An:=bif x40 then some (.bool true,H) else j4 rec k L0 L1 x0 x1 x5 x6 x7 x8 x9 H
noncomputable def l1 (rec:Rec) (k:Nat) (L0:TL0):Nat→Sl→Int→Int→Sl→Int→Int→Hp→An
 | 0,_,_,_,_,_,_,_=>none
 | n + 1,x0,x1,x5,x6,x7,x8,H=>bif decide (x8 < (x6.len:Int)) then bif decide (0 ≤ (x8:Int)) && decide ((x8:Int) < x6.len) then (ldI .i64 H x6.blk (x6.off + (x8:Int).toNat * 1)).bind fun n3=>bif decide (0 ≤ (n3:Int)) && decide ((n3:Int) < x0.len) then (ldI .i64 H x0.blk (x0.off + (n3:Int).toNat * 1)).bind fun n4=>bif decide (n4 > 0) then if (n4:Int) < 0 then none else j2 rec k L0 (l1 rec k L0 n) x0 x1 x5 x6 x7 x8 n4 ((((x7:Int).fdiv (2 ^ (min (n4:Int).toNat IntKind.i64.bits)):Int).tmod 2) == 1) H else j2 rec k L0 (l1 rec k L0 n) x0 x1 x5 x6 x7 x8 n4 false H else none else none else j3 rec k L0 x0 x1 x5 H
noncomputable def l0 (rec:Rec) (k:Nat):Nat→Sl→Int→Int→Hp→An
 | 0,_,_,_,_=>none
 | n + 1,x0,x1,x5,H=>bif decide (x5 < (IntKind.i64.wrap (2 * x1))) then (rec spec_LineCells.id [.int .i64 x1,.int .i64 x5] H).bind fun r1=>(r1.1.toS 1).bind fun s2=>l1 rec k (l0 rec k n) k x0 x1 x5 s2 0 0 r1.2 else some (.bool false,H)
noncomputable def f (rec:Rec) (k:Nat) (a0:Sl) (a1:Int) (H:Hp):An:=l0 rec k k a0 a1 0 H
theorem j3_eq (rec:Rec) (k:Nat) (n0:Nat) (L0:TL0) (hL0:PhL0 rec k n0 L0):∀ x0 x1 x5 H,j3 rec k L0 x0 x1 x5 H=ex PP o rec k (sub body [1,0,1,0,0,1,1]) (St.of 45 [(0,.sl 1 x0),(1,.int .i64 x1),(5,.int .i64 x5)] []) H (kAt PP o rec k body [1,0,1,0,0,1,1] [n0] (K0 PP Go.Proofs.Try.f128)):=by
 intros x0 x1 x5 H
 unfold j3
 try simp only [hL0,-eq_self]
 kernel_rfl
theorem j5_eq (rec:Rec) (k:Nat) (n0:Nat) (L0:TL0) (hL0:PhL0 rec k n0 L0) (n1:Nat) (L1:TL1) (hL1:PhL1 rec k n0 n1 L1):∀ x0 x1 x5 x6 x7 x8 H,j5 rec k L0 L1 x0 x1 x5 x6 x7 x8 H=ex PP o rec k (sub body [1,0,1,0,0,1,0,0,1,1,1,0,0,1,1]) (St.of 45 [(0,.sl 1 x0),(1,.int .i64 x1),(5,.int .i64 x5),(6,.sl 1 x6),(7,.int .i64 x7),(8,.int .i64 x8)] []) H (kAt PP o rec k body [1,0,1,0,0,1,0,0,1,1,1,0,0,1,1] [n0,n1] (K0 PP Go.Proofs.Try.f128)):=by
 intros x0 x1 x5 x6 x7 x8 H
 unfold j5
 try simp only [hL0,hL1,-eq_self]
 kernel_rfl
theorem j4_eq (rec:Rec) (k:Nat) (n0:Nat) (L0:TL0) (hL0:PhL0 rec k n0 L0) (n1:Nat) (L1:TL1) (hL1:PhL1 rec k n0 n1 L1):∀ x0 x1 x5 x6 x7 x8 x9 H,j4 rec k L0 L1 x0 x1 x5 x6 x7 x8 x9 H=ex PP o rec k (sub body [1,0,1,0,0,1,0,0,1,1,1,0,0,1,0,0,1,1]) (St.of 45 [(0,.sl 1 x0),(1,.int .i64 x1),(5,.int .i64 x5),(6,.sl 1 x6),(7,.int .i64 x7),(8,.int .i64 x8),(9,.int .i64 x9)] []) H (kAt PP o rec k body [1,0,1,0,0,1,0,0,1,1,1,0,0,1,0,0,1,1] [n0,n1] (K0 PP Go.Proofs.Try.f128)):=by
 intros x0 x1 x5 x6 x7 x8 x9 H
 unfold j4
 try simp only [hL0,hL1,j5_eq rec k n0 L0 hL0 n1 L1 hL1,-eq_self]
 kernel_rfl
theorem j2_eq (rec:Rec) (k:Nat) (n0:Nat) (L0:TL0) (hL0:PhL0 rec k n0 L0) (n1:Nat) (L1:TL1) (hL1:PhL1 rec k n0 n1 L1):∀ x0 x1 x5 x6 x7 x8 x9 x40 H,j2 rec k L0 L1 x0 x1 x5 x6 x7 x8 x9 x40 H=ex PP o rec k (sub body [1,0,1,0,0,1,0,0,1,1,1,0,0,1,0,0,1,0,1]) (St.of 45 [(0,.sl 1 x0),(1,.int .i64 x1),(5,.int .i64 x5),(6,.sl 1 x6),(7,.int .i64 x7),(8,.int .i64 x8),(9,.int .i64 x9),(40,.bool x40)] []) H (kAt PP o rec k body [1,0,1,0,0,1,0,0,1,1,1,0,0,1,0,0,1,0,1] [n0,n1] (K0 PP Go.Proofs.Try.f128)):=by
 intros x0 x1 x5 x6 x7 x8 x9 x40 H
 unfold j2
 try simp only [hL0,hL1,j4_eq rec k n0 L0 hL0 n1 L1 hL1,-eq_self]
 kernel_rfl
theorem l1_eq (rec:Rec) (k:Nat) (n0:Nat) (L0:TL0) (hL0:PhL0 rec k n0 L0):∀ n x0 x1 x5 x6 x7 x8 H,l1 rec k L0 n x0 x1 x5 x6 x7 x8 H=iter (o.at (lbody (sub body [1,0,1,0,0,1,0,0,1,1,1,0]))) (ex PP o rec k (lbody (sub body [1,0,1,0,0,1,0,0,1,1,1,0]))) (kAt PP o rec k body [1,0,1,0,0,1,0,0,1,1,1,0] [n0] (K0 PP Go.Proofs.Try.f128)) n (St.of 45 [(0,.sl 1 x0),(1,.int .i64 x1),(5,.int .i64 x5),(6,.sl 1 x6),(7,.int .i64 x7),(8,.int .i64 x8)] []) H:=by
 intro n
 induction n with
 | zero=>intros; rfl
 | succ n ih=>
  intros x0 x1 x5 x6 x7 x8 H
  simp only [l1,hL0,j2_eq rec k n0 L0 hL0 n (l1 rec k L0 n) (fun x0 x1 x5 x6 x7 x8 H=>ih x0 x1 x5 x6 x7 x8 H),j3_eq rec k n0 L0 hL0,ih,-eq_self]
  kernel_rfl
theorem l0_eq (rec:Rec) (k:Nat):∀ n x0 x1 x5 H,l0 rec k n x0 x1 x5 H=iter (o.at (lbody (sub body [1,0,1,0]))) (ex PP o rec k (lbody (sub body [1,0,1,0]))) (kAt PP o rec k body [1,0,1,0] [] (K0 PP Go.Proofs.Try.f128)) n (St.of 45 [(0,.sl 1 x0),(1,.int .i64 x1),(5,.int .i64 x5)] []) H:=by
 intro n
 induction n with
 | zero=>intros; rfl
 | succ n ih=>
  intros x0 x1 x5 H
  simp only [l0,l1_eq rec k n (l0 rec k n) (fun x0 x1 x5 H=>ih x0 x1 x5 H),ih,-eq_self]
  kernel_rfl
theorem f_eq (rec:Rec) (k:Nat):∀ a0 a1 H,f rec k a0 a1 H=ex PP o rec k body (St.of 45 [(0,.sl 1 a0),(1,.int .i64 a1)] []) H (K0 PP Go.Proofs.Try.f128):=by
 intros a0 a1 H
 unfold f
 try simp only [l0_eq rec k,-eq_self]
 kernel_rfl
theorem call (k:Nat):∀ a0 a1 H,callF PP orc (k + 1) spec_l2Clash.id [.sl 1 a0,.int .i64 a1] H=f (callF PP orc k) k a0 a1 H:=by
 intros a0 a1 H
 rw [callF_at (fn:=Go.Proofs.Try.f128) (c:=body) Go.Proofs.Try.func128 (by kernel_rfl) (Nat.le_of_ble_eq_true (by kernel_rfl)),f_eq]
 kernel_rfl
end spec_l2Clash
end Go.Proofs.Ytchliocobgkmbaa.Rp
