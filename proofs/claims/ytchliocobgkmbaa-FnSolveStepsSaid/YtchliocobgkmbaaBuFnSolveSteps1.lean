/- Texts for the row of the law FnSolveSteps, part 1: the plain machine, the program's functions on it, what they come to. No conditions. -/
import Derived.Test.YtchliocobgkmbaaAb
import Derived.Test.YtchliocobgkmbaaOr
set_option linter.unusedVariables false
set_option linter.unusedSimpArgs false
set_option maxRecDepth 100000
namespace Go.Proofs.Ytchliocobgkmbaa.Rp
open Go Go.Proofs.Ytchliocobgkmbaa.Ab
namespace spec_RuleValid
noncomputable def body:Code:=(Go.Proofs.Try.f69).body.getD .skip
abbrev o:=orc spec_RuleValid.id
abbrev TL0:=Int→Int→Int→Sl→Int→Hp→An
abbrev PhL0 (rec:Rec) (k n0:Nat) (L0:TL0):Prop:=∀ x1 x5 y2_0 y2_1 y2_2 H,L0 x1 x5 y2_0 y2_1 y2_2 H=iter (o.at (lbody (sub body [1,0,1,0]))) (ex PP o rec k (lbody (sub body [1,0,1,0]))) (kAt PP o rec k body [1,0,1,0] [] (K0 PP Go.Proofs.Try.f69)) n0 (St.of 100 [(1,.int .i64 x1),(2,.lp 2 0),(5,.int .i64 x5)] [(2,[.int .i64 y2_0,.sl 1 y2_1,.int .i64 y2_2])]) H
noncomputable def j3 (rec:Rec) (k:Nat) (L0:TL0) (x1:Int) (x5:Int) (y2_0:Int) (y2_1:Sl) (y2_2:Int) (H:Hp):An:=L0 x1 (IntKind.i64.wrap (x5 + 1)) y2_0 y2_1 y2_2 H
noncomputable def l1 (rec:Rec) (k:Nat) (L0:TL0):Nat→Int→Int→Int→Int→Sl→Int→Hp→An
 | 0,_,_,_,_,_,_,_=>none
 | n + 1,x1,x5,x6,y2_0,y2_1,y2_2,H=>bif decide (x6 < x5) then bif decide (0 ≤ (x6:Int)) && decide ((x6:Int) < y2_1.len) then (ldI .i64 H y2_1.blk (y2_1.off + (x6:Int).toNat * 1)).bind fun n4=>bif decide (0 ≤ (x5:Int)) && decide ((x5:Int) < y2_1.len) then (ldI .i64 H y2_1.blk (y2_1.off + (x5:Int).toNat * 1)).bind fun n5=>bif n4 == n5 then some (.bool false,H) else (l1 rec k L0 n) x1 x5 (IntKind.i64.wrap (x6 + 1)) y2_0 y2_1 y2_2 H else none else none else j3 rec k L0 x1 x5 y2_0 y2_1 y2_2 H
noncomputable def j6 (rec:Rec) (k:Nat) (x1:Int) (x7:Int) (x53:Int) (x63:Bool) (y2_0:Int) (y2_1:Sl) (y2_2:Int) (H:Hp):An:=bif x63 then bif decide (x7 ≥ 1) then (rec spec_l1In.id [.int .i64 y2_2,.int .i64 1,.int .i64 (IntKind.i64.wrap ((IntKind.i64.wrap ((IntKind.i64.wrap (x1 * x1)) * x1)) * x1))] H).bind fun r8=>r8.1.toB.bind fun b9=>some (.bool b9,r8.2) else some (.bool false,H) else bif x53 == 4 then bif x7 == 2 then some (.bool (y2_2 == 0),H) else some (.bool false,H) else bif x53 == 5 then bif x7 == 2 then (rec spec_l1In.id [.int .i64 y2_2,.int .i64 0,.int .i64 (IntKind.i64.wrap (x1 - 1))] H).bind fun r10=>r10.1.toB.bind fun b11=>some (.bool b11,r10.2) else some (.bool false,H) else some (.bool false,H)
noncomputable def j5 (rec:Rec) (k:Nat) (x1:Int) (x7:Int) (y2_0:Int) (y2_1:Sl) (y2_2:Int) (H:Hp):An:=bif y2_0 == 1 then bif decide (x7 ≥ 2) then some (.bool (y2_2 == 0),H) else some (.bool false,H) else bif y2_0 == 2 then j6 rec k x1 x7 y2_0 (y2_0 == 2) y2_0 y2_1 y2_2 H else j6 rec k x1 x7 y2_0 (y2_0 == 3) y2_0 y2_1 y2_2 H
noncomputable def j4 (rec:Rec) (k:Nat) (x1:Int) (x7:Int) (x51:Bool) (y2_0:Int) (y2_1:Sl) (y2_2:Int) (H:Hp):An:=bif x51 then some (.bool false,H) else j5 rec k x1 x7 y2_0 y2_1 y2_2 H
noncomputable def j2 (rec:Rec) (k:Nat) (x1:Int) (y2_0:Int) (y2_1:Sl) (y2_2:Int) (H:Hp):An:=(rec spec_l1In.id [.int .i64 x1,.int .i64 2,.int .i64 4] H).bind fun r6=>r6.1.toB.bind fun b7=>bif !b7 then j4 rec k x1 (y2_1.len:Int) true y2_0 y2_1 y2_2 r6.2 else j4 rec k x1 (y2_1.len:Int) (decide ((y2_1.len:Int) > 4)) y2_0 y2_1 y2_2 r6.2
noncomputable def l0 (rec:Rec) (k:Nat):Nat→Int→Int→Int→Sl→Int→Hp→An
 | 0,_,_,_,_,_,_=>none
 | n + 1,x1,x5,y2_0,y2_1,y2_2,H=>bif decide (x5 < (y2_1.len:Int)) then bif decide (0 ≤ (x5:Int)) && decide ((x5:Int) < y2_1.len) then (ldI .i64 H y2_1.blk (y2_1.off + (x5:Int).toNat * 1)).bind fun n1=>(rec spec_l1In.id [.int .i64 n1,.int .i64 0,.int .i64 (IntKind.i64.wrap ((IntKind.i64.wrap (x1 * x1)) - 1))] H).bind fun r2=>r2.1.toB.bind fun b3=>bif !b3 then some (.bool false,r2.2) else l1 rec k (l0 rec k n) k x1 x5 0 y2_0 y2_1 y2_2 r2.2 else none else j2 rec k x1 y2_0 y2_1 y2_2 H
noncomputable def f (rec:Rec) (k:Nat) (a0_0:Int) (a0_1:Sl) (a0_2:Int) (a1:Int) (H:Hp):An:=l0 rec k k a1 0 a0_0 a0_1 a0_2 H
theorem j3_eq (rec:Rec) (k:Nat) (n0:Nat) (L0:TL0) (hL0:PhL0 rec k n0 L0):∀ x1 x5 y2_0 y2_1 y2_2 H,j3 rec k L0 x1 x5 y2_0 y2_1 y2_2 H=ex PP o rec k (sub body [1,0,1,0,0,1,1]) (St.of 100 [(1,.int .i64 x1),(2,.lp 2 0),(5,.int .i64 x5)] [(2,[.int .i64 y2_0,.sl 1 y2_1,.int .i64 y2_2])]) H (kAt PP o rec k body [1,0,1,0,0,1,1] [n0] (K0 PP Go.Proofs.Try.f69)):=by
 intros x1 x5 y2_0 y2_1 y2_2 H
 unfold j3
 try simp only [hL0,-eq_self]
 kernel_rfl
theorem l1_eq (rec:Rec) (k:Nat) (n0:Nat) (L0:TL0) (hL0:PhL0 rec k n0 L0):∀ n x1 x5 x6 y2_0 y2_1 y2_2 H,l1 rec k L0 n x1 x5 x6 y2_0 y2_1 y2_2 H=iter (o.at (lbody (sub body [1,0,1,0,0,1,0,0,1,1,0]))) (ex PP o rec k (lbody (sub body [1,0,1,0,0,1,0,0,1,1,0]))) (kAt PP o rec k body [1,0,1,0,0,1,0,0,1,1,0] [n0] (K0 PP Go.Proofs.Try.f69)) n (St.of 100 [(1,.int .i64 x1),(2,.lp 2 0),(5,.int .i64 x5),(6,.int .i64 x6)] [(2,[.int .i64 y2_0,.sl 1 y2_1,.int .i64 y2_2])]) H:=by
 intro n
 induction n with
 | zero=>intros; rfl
 | succ n ih=>
  intros x1 x5 x6 y2_0 y2_1 y2_2 H
  simp only [l1,hL0,j3_eq rec k n0 L0 hL0,ih,-eq_self]
  kernel_rfl
theorem j6_eq (rec:Rec) (k:Nat):∀ x1 x7 x53 x63 y2_0 y2_1 y2_2 H,j6 rec k x1 x7 x53 x63 y2_0 y2_1 y2_2 H=ex PP o rec k (sub body [1,1,1,1,0,1,0,1,1,1]) (St.of 100 [(1,.int .i64 x1),(2,.lp 2 0),(7,.int .i64 x7),(53,.int .i64 x53),(63,.bool x63)] [(2,[.int .i64 y2_0,.sl 1 y2_1,.int .i64 y2_2])]) H (kAt PP o rec k body [1,1,1,1,0,1,0,1,1,1] [] (K0 PP Go.Proofs.Try.f69)):=by
 intros x1 x7 x53 x63 y2_0 y2_1 y2_2 H
 unfold j6
 kernel_rfl
theorem j5_eq (rec:Rec) (k:Nat):∀ x1 x7 y2_0 y2_1 y2_2 H,j5 rec k x1 x7 y2_0 y2_1 y2_2 H=ex PP o rec k (sub body [1,1,1,1]) (St.of 100 [(1,.int .i64 x1),(2,.lp 2 0),(7,.int .i64 x7)] [(2,[.int .i64 y2_0,.sl 1 y2_1,.int .i64 y2_2])]) H (kAt PP o rec k body [1,1,1,1] [] (K0 PP Go.Proofs.Try.f69)):=by
 intros x1 x7 y2_0 y2_1 y2_2 H
 unfold j5
 try simp only [j6_eq rec k,-eq_self]
 kernel_rfl
theorem j4_eq (rec:Rec) (k:Nat):∀ x1 x7 x51 y2_0 y2_1 y2_2 H,j4 rec k x1 x7 x51 y2_0 y2_1 y2_2 H=ex PP o rec k (sub body [1,1,1,0,1]) (St.of 100 [(1,.int .i64 x1),(2,.lp 2 0),(7,.int .i64 x7),(51,.bool x51)] [(2,[.int .i64 y2_0,.sl 1 y2_1,.int .i64 y2_2])]) H (kAt PP o rec k body [1,1,1,0,1] [] (K0 PP Go.Proofs.Try.f69)):=by
 intros x1 x7 x51 y2_0 y2_1 y2_2 H
 unfold j4
 try simp only [j5_eq rec k,-eq_self]
 kernel_rfl
theorem j2_eq (rec:Rec) (k:Nat):∀ x1 y2_0 y2_1 y2_2 H,j2 rec k x1 y2_0 y2_1 y2_2 H=ex PP o rec k (sub body [1,1]) (St.of 100 [(1,.int .i64 x1),(2,.lp 2 0)] [(2,[.int .i64 y2_0,.sl 1 y2_1,.int .i64 y2_2])]) H (kAt PP o rec k body [1,1] [] (K0 PP Go.Proofs.Try.f69)):=by
 intros x1 y2_0 y2_1 y2_2 H
 simp only [j2,j4,j5,j6,-eq_self]
 kernel_rfl
theorem l0_eq (rec:Rec) (k:Nat):∀ n x1 x5 y2_0 y2_1 y2_2 H,l0 rec k n x1 x5 y2_0 y2_1 y2_2 H=iter (o.at (lbody (sub body [1,0,1,0]))) (ex PP o rec k (lbody (sub body [1,0,1,0]))) (kAt PP o rec k body [1,0,1,0] [] (K0 PP Go.Proofs.Try.f69)) n (St.of 100 [(1,.int .i64 x1),(2,.lp 2 0),(5,.int .i64 x5)] [(2,[.int .i64 y2_0,.sl 1 y2_1,.int .i64 y2_2])]) H:=by
 intro n
 induction n with
 | zero=>intros; rfl
 | succ n ih=>
  intros x1 x5 y2_0 y2_1 y2_2 H
  simp only [l0,l1_eq rec k n (l0 rec k n) (fun x1 x5 y2_0 y2_1 y2_2 H=>ih x1 x5 y2_0 y2_1 y2_2 H),j2_eq rec k,ih,-eq_self]
  kernel_rfl
theorem f_eq (rec:Rec) (k:Nat):∀ a0_0 a0_1 a0_2 a1 H,f rec k a0_0 a0_1 a0_2 a1 H=ex PP o rec k body (St.of 100 [(0,.agg [.int .i64 a0_0,.sl 1 a0_1,.int .i64 a0_2]),(1,.int .i64 a1)] []) H (K0 PP Go.Proofs.Try.f69):=by
 intros a0_0 a0_1 a0_2 a1 H
 unfold f
 try simp only [l0_eq rec k,-eq_self]
 kernel_rfl
theorem call (k:Nat):∀ a0_0 a0_1 a0_2 a1 H,callF PP orc (k + 1) spec_RuleValid.id [.agg [.int .i64 a0_0,.sl 1 a0_1,.int .i64 a0_2],.int .i64 a1] H=f (callF PP orc k) k a0_0 a0_1 a0_2 a1 H:=by
 intros a0_0 a0_1 a0_2 a1 H
 rw [callF_at (fn:=Go.Proofs.Try.f69) (c:=body) Go.Proofs.Try.func69 (by kernel_rfl) (Nat.le_of_ble_eq_true (by kernel_rfl)),f_eq]
 kernel_rfl
end spec_RuleValid
namespace impl_RuleValid
noncomputable def body:Code:=(Go.Proofs.Try.f95).body.getD .skip
abbrev o:=orc impl_RuleValid.id
abbrev TL0:=Int→Sl→Int→Int→Int→Sl→Int→Hp→An
abbrev PhL0 (rec:Rec) (k n0:Nat) (L0:TL0):Prop:=∀ x1 x12 x13 x14 y2_0 y2_1 y2_2 H,L0 x1 x12 x13 x14 y2_0 y2_1 y2_2 H=iter (o.at (lbody (sub body [1,1,0,1,0]))) (ex PP o rec k (lbody (sub body [1,1,0,1,0]))) (kAt PP o rec k body [1,1,0,1,0] [] (K0 PP Go.Proofs.Try.f95)) n0 (St.of 105 [(1,.int .i64 x1),(2,.lp 2 0),(12,.sl 1 x12),(13,.int .i64 x13),(14,.int .i64 x14)] [(2,[.int .i64 y2_0,.sl 1 y2_1,.int .i64 y2_2])]) H
noncomputable def j3 (rec:Rec) (k:Nat) (L0:TL0) (x1:Int) (x12:Sl) (x13:Int) (x14:Int) (y2_0:Int) (y2_1:Sl) (y2_2:Int) (H:Hp):An:=L0 x1 x12 x13 (IntKind.i64.wrap (x14 + 1)) y2_0 y2_1 y2_2 H
noncomputable def j1 (rec:Rec) (k:Nat) (L0:TL0) (x1:Int) (x12:Sl) (x13:Int) (x14:Int) (x35:Bool) (y2_0:Int) (y2_1:Sl) (y2_2:Int) (H:Hp):An:=bif x35 then some (.bool false,H) else j3 rec k L0 x1 x12 x13 x14 y2_0 y2_1 y2_2 H
noncomputable def j4 (rec:Rec) (k:Nat) (x1:Int) (x7:Int) (x41:Int) (x55:Bool) (y2_0:Int) (y2_1:Sl) (y2_2:Int) (H:Hp):An:=bif x55 then bif decide (x7 ≥ 1) then bif decide (x7 ≤ 4) then bif decide (y2_2 ≥ 1) then some (.bool (decide (y2_2 ≤ (IntKind.i64.wrap ((IntKind.i64.wrap ((IntKind.i64.wrap (x1 * x1)) * x1)) * x1)))),H) else some (.bool false,H) else some (.bool false,H) else some (.bool false,H) else bif x41 == 4 then bif x7 == 2 then some (.bool (y2_2 == 0),H) else some (.bool false,H) else bif x41 == 5 then bif x7 == 2 then bif decide (y2_2 ≥ 0) then some (.bool (decide (y2_2 < x1)),H) else some (.bool false,H) else some (.bool false,H) else some (.bool false,H)
noncomputable def j2 (rec:Rec) (k:Nat) (x1:Int) (y2_0:Int) (y2_1:Sl) (y2_2:Int) (H:Hp):An:=bif y2_0 == 1 then bif decide ((y2_1.len:Int) ≥ 2) then bif decide ((y2_1.len:Int) ≤ 4) then some (.bool (y2_2 == 0),H) else some (.bool false,H) else some (.bool false,H) else bif y2_0 == 2 then j4 rec k x1 (y2_1.len:Int) y2_0 (y2_0 == 2) y2_0 y2_1 y2_2 H else j4 rec k x1 (y2_1.len:Int) y2_0 (y2_0 == 3) y2_0 y2_1 y2_2 H
noncomputable def l0 (rec:Rec) (k:Nat):Nat→Int→Sl→Int→Int→Int→Sl→Int→Hp→An
 | 0,_,_,_,_,_,_,_,_=>none
 | n + 1,x1,x12,x13,x14,y2_0,y2_1,y2_2,H=>bif decide (x14 < x13) then bif decide (0 ≤ (x14:Int)) && decide ((x14:Int) < x12.len) then (ldI .i64 H x12.blk (x12.off + (x14:Int).toNat * 1)).bind fun n3=>bif decide (n3 < 0) then j1 rec k (l0 rec k n) x1 x12 x13 x14 true y2_0 y2_1 y2_2 H else bif decide (n3 ≥ (IntKind.i64.wrap (x1 * x1))) then j1 rec k (l0 rec k n) x1 x12 x13 x14 true y2_0 y2_1 y2_2 H else if (0 ≤ (0:Int)∧(0:Int) ≤ x14∧(x14:Int) ≤ y2_1.len∧(x14:Int)=x14)∧0 < 1∧true=true then (rec slices_Contains_int.id [.sl 1 (Sl.mk y2_1.nil y2_1.blk (y2_1.off + (0:Int).toNat * 1) ((x14:Int) - 0).toNat),.int .i64 n3] H).bind fun r4=>r4.1.toB.bind fun b5=>j1 rec k (l0 rec k n) x1 x12 x13 x14 b5 y2_0 y2_1 y2_2 r4.2 else none else none else j2 rec k x1 y2_0 y2_1 y2_2 H
noncomputable def f (rec:Rec) (k:Nat) (a0_0:Int) (a0_1:Sl) (a0_2:Int) (a1:Int) (H:Hp):An:=(rec impl_sizeOk.id [.int .i64 a1] H).bind fun r1=>r1.1.toB.bind fun b2=>bif !b2 then some (.bool false,r1.2) else l0 rec k k a1 a0_1 (a0_1.len:Int) 0 a0_0 a0_1 a0_2 r1.2
theorem j3_eq (rec:Rec) (k:Nat) (n0:Nat) (L0:TL0) (hL0:PhL0 rec k n0 L0):∀ x1 x12 x13 x14 y2_0 y2_1 y2_2 H,j3 rec k L0 x1 x12 x13 x14 y2_0 y2_1 y2_2 H=ex PP o rec k (sub body [1,1,0,1,0,0,1,1,1]) (St.of 105 [(1,.int .i64 x1),(2,.lp 2 0),(12,.sl 1 x12),(13,.int .i64 x13),(14,.int .i64 x14)] [(2,[.int .i64 y2_0,.sl 1 y2_1,.int .i64 y2_2])]) H (kAt PP o rec k body [1,1,0,1,0,0,1,1,1] [n0] (K0 PP Go.Proofs.Try.f95)):=by
 intros x1 x12 x13 x14 y2_0 y2_1 y2_2 H
 unfold j3
 try simp only [hL0,-eq_self]
 kernel_rfl
theorem j1_eq (rec:Rec) (k:Nat) (n0:Nat) (L0:TL0) (hL0:PhL0 rec k n0 L0):∀ x1 x12 x13 x14 x35 y2_0 y2_1 y2_2 H,j1 rec k L0 x1 x12 x13 x14 x35 y2_0 y2_1 y2_2 H=ex PP o rec k (sub body [1,1,0,1,0,0,1,1,0,0,1,1]) (St.of 105 [(1,.int .i64 x1),(2,.lp 2 0),(12,.sl 1 x12),(13,.int .i64 x13),(14,.int .i64 x14),(35,.bool x35)] [(2,[.int .i64 y2_0,.sl 1 y2_1,.int .i64 y2_2])]) H (kAt PP o rec k body [1,1,0,1,0,0,1,1,0,0,1,1] [n0] (K0 PP Go.Proofs.Try.f95)):=by
 intros x1 x12 x13 x14 x35 y2_0 y2_1 y2_2 H
 unfold j1
 try simp only [hL0,j3_eq rec k n0 L0 hL0,-eq_self]
 kernel_rfl
theorem j4_eq (rec:Rec) (k:Nat):∀ x1 x7 x41 x55 y2_0 y2_1 y2_2 H,j4 rec k x1 x7 x41 x55 y2_0 y2_1 y2_2 H=ex PP o rec k (sub body [1,1,1,1,0,1,0,1,1,1]) (St.of 105 [(1,.int .i64 x1),(2,.lp 2 0),(7,.int .i64 x7),(41,.int .i64 x41),(55,.bool x55)] [(2,[.int .i64 y2_0,.sl 1 y2_1,.int .i64 y2_2])]) H (kAt PP o rec k body [1,1,1,1,0,1,0,1,1,1] [] (K0 PP Go.Proofs.Try.f95)):=by
 intros x1 x7 x41 x55 y2_0 y2_1 y2_2 H
 unfold j4
 kernel_rfl
theorem j2_eq (rec:Rec) (k:Nat):∀ x1 y2_0 y2_1 y2_2 H,j2 rec k x1 y2_0 y2_1 y2_2 H=ex PP o rec k (sub body [1,1,1]) (St.of 105 [(1,.int .i64 x1),(2,.lp 2 0)] [(2,[.int .i64 y2_0,.sl 1 y2_1,.int .i64 y2_2])]) H (kAt PP o rec k body [1,1,1] [] (K0 PP Go.Proofs.Try.f95)):=by
 intros x1 y2_0 y2_1 y2_2 H
 unfold j2
 try simp only [j4_eq rec k,-eq_self]
 kernel_rfl
theorem l0_eq (rec:Rec) (k:Nat):∀ n x1 x12 x13 x14 y2_0 y2_1 y2_2 H,l0 rec k n x1 x12 x13 x14 y2_0 y2_1 y2_2 H=iter (o.at (lbody (sub body [1,1,0,1,0]))) (ex PP o rec k (lbody (sub body [1,1,0,1,0]))) (kAt PP o rec k body [1,1,0,1,0] [] (K0 PP Go.Proofs.Try.f95)) n (St.of 105 [(1,.int .i64 x1),(2,.lp 2 0),(12,.sl 1 x12),(13,.int .i64 x13),(14,.int .i64 x14)] [(2,[.int .i64 y2_0,.sl 1 y2_1,.int .i64 y2_2])]) H:=by
 intro n
 induction n with
 | zero=>intros; rfl
 | succ n ih=>
  intros x1 x12 x13 x14 y2_0 y2_1 y2_2 H
  simp only [l0,j1_eq rec k n (l0 rec k n) (fun x1 x12 x13 x14 y2_0 y2_1 y2_2 H=>ih x1 x12 x13 x14 y2_0 y2_1 y2_2 H),j2_eq rec k,ih,-eq_self]
  kernel_rfl
theorem f_eq (rec:Rec) (k:Nat):∀ a0_0 a0_1 a0_2 a1 H,f rec k a0_0 a0_1 a0_2 a1 H=ex PP o rec k body (St.of 105 [(0,.agg [.int .i64 a0_0,.sl 1 a0_1,.int .i64 a0_2]),(1,.int .i64 a1)] []) H (K0 PP Go.Proofs.Try.f95):=by
 intros a0_0 a0_1 a0_2 a1 H
 unfold f
 try simp only [l0_eq rec k,-eq_self]
 kernel_rfl
theorem call (k:Nat):∀ a0_0 a0_1 a0_2 a1 H,callF PP orc (k + 1) impl_RuleValid.id [.agg [.int .i64 a0_0,.sl 1 a0_1,.int .i64 a0_2],.int .i64 a1] H=f (callF PP orc k) k a0_0 a0_1 a0_2 a1 H:=by
 intros a0_0 a0_1 a0_2 a1 H
 rw [callF_at (fn:=Go.Proofs.Try.f95) (c:=body) Go.Proofs.Try.func95 (by kernel_rfl) (Nat.le_of_ble_eq_true (by kernel_rfl)),f_eq]
 kernel_rfl
end impl_RuleValid
namespace slices_Contains_int
noncomputable def body:Code:=(Go.Proofs.Try.f114).body.getD .skip
noncomputable def f (rec:Rec) (k:Nat) (a0:Sl) (a1:Int) (H:Hp):An:=(rec slices_Index_int.id [.sl 1 a0,.int .i64 a1] H).bind fun r1=>(r1.1.toI .i64).bind fun n2=>some (.bool (decide (n2 ≥ 0)),r1.2)
theorem f_eq (rec:Rec) (k:Nat):∀ a0 a1 H,f rec k a0 a1 H=ex PP (orc slices_Contains_int.id) rec k body (St.of 9 [(0,.sl 1 a0),(1,.int .i64 a1)] []) H (K0 PP Go.Proofs.Try.f114):=by
 intros a0 a1 H
 unfold f
 kernel_rfl
theorem call (k:Nat):∀ a0 a1 H,callF PP orc (k + 1) slices_Contains_int.id [.sl 1 a0,.int .i64 a1] H=f (callF PP orc k) k a0 a1 H:=by
 intros a0 a1 H
 rw [callF_at (fn:=Go.Proofs.Try.f114) (c:=body) Go.Proofs.Try.func114 (by kernel_rfl) (Nat.le_of_ble_eq_true (by kernel_rfl)),f_eq]
 kernel_rfl
end slices_Contains_int
namespace slices_Index_int
noncomputable def body:Code:=(Go.Proofs.Try.f124).body.getD .skip
abbrev o:=orc slices_Index_int.id
noncomputable def l0 (rec:Rec) (k:Nat):Nat→Sl→Int→Int→Int→Hp→An
 | 0,_,_,_,_,_=>none
 | n + 1,x0,x1,x7,x8,H=>bif decide (x8 < x7) then bif decide (0 ≤ (x8:Int)) && decide ((x8:Int) < x0.len) then (ldI .i64 H x0.blk (x0.off + (x8:Int).toNat * 1)).bind fun n1=>bif x1 == n1 then some (.int .i64 x8,H) else (l0 rec k n) x0 x1 x7 (IntKind.i64.wrap (x8 + 1)) H else none else some (.int .i64 (-1),H)
noncomputable def f (rec:Rec) (k:Nat) (a0:Sl) (a1:Int) (H:Hp):An:=l0 rec k k a0 a1 (a0.len:Int) 0 H
theorem l0_eq (rec:Rec) (k:Nat):∀ n x0 x1 x7 x8 H,l0 rec k n x0 x1 x7 x8 H=iter (o.at (lbody (sub body [1,0,1,0]))) (ex PP o rec k (lbody (sub body [1,0,1,0]))) (kAt PP o rec k body [1,0,1,0] [] (K0 PP Go.Proofs.Try.f124)) n (St.of 19 [(0,.sl 1 x0),(1,.int .i64 x1),(7,.int .i64 x7),(8,.int .i64 x8)] []) H:=by
 intro n
 induction n with
 | zero=>intros; rfl
 | succ n ih=>
  intros x0 x1 x7 x8 H
  simp only [l0,ih,-eq_self]
  kernel_rfl
theorem f_eq (rec:Rec) (k:Nat):∀ a0 a1 H,f rec k a0 a1 H=ex PP o rec k body (St.of 19 [(0,.sl 1 a0),(1,.int .i64 a1)] []) H (K0 PP Go.Proofs.Try.f124):=by
 intros a0 a1 H
 unfold f
 try simp only [l0_eq rec k,-eq_self]
 kernel_rfl
theorem call (k:Nat):∀ a0 a1 H,callF PP orc (k + 1) slices_Index_int.id [.sl 1 a0,.int .i64 a1] H=f (callF PP orc k) k a0 a1 H:=by
 intros a0 a1 H
 rw [callF_at (fn:=Go.Proofs.Try.f124) (c:=body) Go.Proofs.Try.func124 (by kernel_rfl) (Nat.le_of_ble_eq_true (by kernel_rfl)),f_eq]
 kernel_rfl
end slices_Index_int
namespace spec_PuzzleValid
noncomputable def body:Code:=(Go.Proofs.Try.f26).body.getD .skip
abbrev o:=orc spec_PuzzleValid.id
noncomputable def j1 (rec:Rec) (k:Nat) (y1_0:Int) (y1_1:Sl) (y1_2:Sl) (H:Hp):An:=(rec spec_GridValid.id [.sl 1 y1_1,.int .i64 y1_0] H).bind fun r6=>r6.1.toB.bind fun b7=>bif b7 then some (.bool (decide ((y1_2.len:Int) ≤ 20)),r6.2) else some (.bool false,r6.2)
noncomputable def l0 (rec:Rec) (k:Nat):Nat→Int→Int→Sl→Sl→Hp→An
 | 0,_,_,_,_,_=>none
 | n + 1,x3,y1_0,y1_1,y1_2,H=>bif decide (x3 < (y1_2.len:Int)) then bif decide (0 ≤ (x3:Int)) && decide ((x3:Int) < y1_2.len) then (ldI .i64 H y1_2.blk (y1_2.off + (x3:Int).toNat * 3)).bind fun n1=>(ldS 1 H y1_2.blk (y1_2.off + (x3:Int).toNat * 3 + 1)).bind fun s2=>(ldI .i64 H y1_2.blk (y1_2.off + (x3:Int).toNat * 3 + 1 + 1)).bind fun n3=>(rec spec_RuleValid.id [.agg [.int .i64 n1,.sl 1 s2,.int .i64 n3],.int .i64 y1_0] H).bind fun r4=>r4.1.toB.bind fun b5=>bif !b5 then some (.bool false,r4.2) else (l0 rec k n) (IntKind.i64.wrap (x3 + 1)) y1_0 y1_1 y1_2 r4.2 else none else j1 rec k y1_0 y1_1 y1_2 H
noncomputable def f (rec:Rec) (k:Nat) (a0_0:Int) (a0_1:Sl) (a0_2:Sl) (H:Hp):An:=l0 rec k k 0 a0_0 a0_1 a0_2 H
theorem j1_eq (rec:Rec) (k:Nat):∀ y1_0 y1_1 y1_2 H,j1 rec k y1_0 y1_1 y1_2 H=ex PP o rec k (sub body [1,1]) (St.of 31 [(1,.lp 1 0)] [(1,[.int .i64 y1_0,.sl 1 y1_1,.sl 3 y1_2])]) H (kAt PP o rec k body [1,1] [] (K0 PP Go.Proofs.Try.f26)):=by
 intros y1_0 y1_1 y1_2 H
 unfold j1
 kernel_rfl
theorem l0_eq (rec:Rec) (k:Nat):∀ n x3 y1_0 y1_1 y1_2 H,l0 rec k n x3 y1_0 y1_1 y1_2 H=iter (o.at (lbody (sub body [1,0,1,0]))) (ex PP o rec k (lbody (sub body [1,0,1,0]))) (kAt PP o rec k body [1,0,1,0] [] (K0 PP Go.Proofs.Try.f26)) n (St.of 31 [(1,.lp 1 0),(3,.int .i64 x3)] [(1,[.int .i64 y1_0,.sl 1 y1_1,.sl 3 y1_2])]) H:=by
 intro n
 induction n with
 | zero=>intros; rfl
 | succ n ih=>
  intros x3 y1_0 y1_1 y1_2 H
  simp only [l0,j1_eq rec k,ih,-eq_self]
  kernel_rfl
theorem f_eq (rec:Rec) (k:Nat):∀ a0_0 a0_1 a0_2 H,f rec k a0_0 a0_1 a0_2 H=ex PP o rec k body (St.of 31 [(0,.agg [.int .i64 a0_0,.sl 1 a0_1,.sl 3 a0_2])] []) H (K0 PP Go.Proofs.Try.f26):=by
 intros a0_0 a0_1 a0_2 H
 unfold f
 try simp only [l0_eq rec k,-eq_self]
 kernel_rfl
theorem call (k:Nat):∀ a0_0 a0_1 a0_2 H,callF PP orc (k + 1) spec_PuzzleValid.id [.agg [.int .i64 a0_0,.sl 1 a0_1,.sl 3 a0_2]] H=f (callF PP orc k) k a0_0 a0_1 a0_2 H:=by
 intros a0_0 a0_1 a0_2 H
 rw [callF_at (fn:=Go.Proofs.Try.f26) (c:=body) Go.Proofs.Try.func26 (by kernel_rfl) (Nat.le_of_ble_eq_true (by kernel_rfl)),f_eq]
 kernel_rfl
end spec_PuzzleValid
namespace impl_PuzzleValid
noncomputable def body:Code:=(Go.Proofs.Try.f60).body.getD .skip
abbrev o:=orc impl_PuzzleValid.id
noncomputable def l2 (rec:Rec) (k:Nat):Nat→Sl→Int→Int→Int→Sl→Sl→Hp→An
 | 0,_,_,_,_,_,_,_=>none
 | n + 1,x18,x19,x20,y1_0,y1_1,y1_2,H=>bif decide (x20 < x19) then bif decide (0 ≤ (x20:Int)) && decide ((x20:Int) < x18.len) then (ldI .i64 H x18.blk (x18.off + (x20:Int).toNat * 3)).bind fun n3=>(ldS 1 H x18.blk (x18.off + (x20:Int).toNat * 3 + 1)).bind fun s4=>(ldI .i64 H x18.blk (x18.off + (x20:Int).toNat * 3 + 1 + 1)).bind fun n5=>(rec impl_RuleValid.id [.agg [.int .i64 n3,.sl 1 s4,.int .i64 n5],.int .i64 y1_0] H).bind fun r6=>r6.1.toB.bind fun b7=>bif !b7 then some (.bool false,r6.2) else (l2 rec k n) x18 x19 (IntKind.i64.wrap (x20 + 1)) y1_0 y1_1 y1_2 r6.2 else none else some (.bool true,H)
noncomputable def j1 (rec:Rec) (k:Nat) (y1_0:Int) (y1_1:Sl) (y1_2:Sl) (H:Hp):An:=l2 rec k k y1_2 (y1_2.len:Int) 0 y1_0 y1_1 y1_2 H
noncomputable def j0 (rec:Rec) (k:Nat) (x16:Bool) (y1_0:Int) (y1_1:Sl) (y1_2:Sl) (H:Hp):An:=bif x16 then some (.bool false,H) else j1 rec k y1_0 y1_1 y1_2 H
noncomputable def f (rec:Rec) (k:Nat) (a0_0:Int) (a0_1:Sl) (a0_2:Sl) (H:Hp):An:=(rec impl_GridValid.id [.sl 1 a0_1,.int .i64 a0_0] H).bind fun r1=>r1.1.toB.bind fun b2=>bif !b2 then j0 rec k true a0_0 a0_1 a0_2 r1.2 else j0 rec k (decide ((a0_2.len:Int) > 20)) a0_0 a0_1 a0_2 r1.2
theorem l2_eq (rec:Rec) (k:Nat):∀ n x18 x19 x20 y1_0 y1_1 y1_2 H,l2 rec k n x18 x19 x20 y1_0 y1_1 y1_2 H=iter (o.at (lbody (sub body [1,1,0,1,0]))) (ex PP o rec k (lbody (sub body [1,1,0,1,0]))) (kAt PP o rec k body [1,1,0,1,0] [] (K0 PP Go.Proofs.Try.f60)) n (St.of 30 [(1,.lp 1 0),(18,.sl 3 x18),(19,.int .i64 x19),(20,.int .i64 x20)] [(1,[.int .i64 y1_0,.sl 1 y1_1,.sl 3 y1_2])]) H:=by
 intro n
 induction n with
 | zero=>intros; rfl
 | succ n ih=>
  intros x18 x19 x20 y1_0 y1_1 y1_2 H
  simp only [l2,ih,-eq_self]
  kernel_rfl
theorem j1_eq (rec:Rec) (k:Nat):∀ y1_0 y1_1 y1_2 H,j1 rec k y1_0 y1_1 y1_2 H=ex PP o rec k (sub body [1,1]) (St.of 30 [(1,.lp 1 0)] [(1,[.int .i64 y1_0,.sl 1 y1_1,.sl 3 y1_2])]) H (kAt PP o rec k body [1,1] [] (K0 PP Go.Proofs.Try.f60)):=by
 intros y1_0 y1_1 y1_2 H
 unfold j1
 try simp only [l2_eq rec k,-eq_self]
 kernel_rfl
theorem j0_eq (rec:Rec) (k:Nat):∀ x16 y1_0 y1_1 y1_2 H,j0 rec k x16 y1_0 y1_1 y1_2 H=ex PP o rec k (sub body [1,0,1]) (St.of 30 [(1,.lp 1 0),(16,.bool x16)] [(1,[.int .i64 y1_0,.sl 1 y1_1,.sl 3 y1_2])]) H (kAt PP o rec k body [1,0,1] [] (K0 PP Go.Proofs.Try.f60)):=by
 intros x16 y1_0 y1_1 y1_2 H
 unfold j0
 try simp only [j1_eq rec k,-eq_self]
 kernel_rfl
theorem f_eq (rec:Rec) (k:Nat):∀ a0_0 a0_1 a0_2 H,f rec k a0_0 a0_1 a0_2 H=ex PP o rec k body (St.of 30 [(0,.agg [.int .i64 a0_0,.sl 1 a0_1,.sl 3 a0_2])] []) H (K0 PP Go.Proofs.Try.f60):=by
 intros a0_0 a0_1 a0_2 H
 unfold f
 try simp only [j0_eq rec k,-eq_self]
 kernel_rfl
theorem call (k:Nat):∀ a0_0 a0_1 a0_2 H,callF PP orc (k + 1) impl_PuzzleValid.id [.agg [.int .i64 a0_0,.sl 1 a0_1,.sl 3 a0_2]] H=f (callF PP orc k) k a0_0 a0_1 a0_2 H:=by
 intros a0_0 a0_1 a0_2 H
 rw [callF_at (fn:=Go.Proofs.Try.f60) (c:=body) Go.Proofs.Try.func60 (by kernel_rfl) (Nat.le_of_ble_eq_true (by kernel_rfl)),f_eq]
 kernel_rfl
end impl_PuzzleValid
namespace spec_MaskValues
noncomputable def body:Code:=(Go.Proofs.Try.f104).body.getD .skip
abbrev o:=orc spec_MaskValues.id
abbrev TL0:=Int→Sl→Int→Hp→An
abbrev PhL0 (rec:Rec) (k n0:Nat) (L0:TL0):Prop:=∀ x0 x3 x4 H,L0 x0 x3 x4 H=iter (o.at (lbody (sub body [1,1,0,1,0]))) (ex PP o rec k (lbody (sub body [1,1,0,1,0]))) (kAt PP o rec k body [1,1,0,1,0] [] (K0 PP Go.Proofs.Try.f104)) n0 (St.of 29 [(0,.int .i64 x0),(3,.sl 1 x3),(4,.int .i64 x4)] []) H
noncomputable def j3 (rec:Rec) (k:Nat) (x3:Sl) (H:Hp):An:=some (.sl 1 x3,H)
noncomputable def j4 (rec:Rec) (k:Nat) (L0:TL0) (x0:Int) (x3:Sl) (x4:Int) (H:Hp):An:=L0 x0 x3 (IntKind.i64.wrap (x4 + 1)) H
noncomputable def j2 (rec:Rec) (k:Nat) (L0:TL0) (x0:Int) (x3:Sl) (x4:Int) (H:Hp):An:=if (x4:Int) < 0 then none else bif (((x0:Int).fdiv (2 ^ (min (x4:Int).toNat IntKind.i64.bits)):Int).tmod 2) == 1 then (H.app 1 x3 1 [.int .i64 x4]).bind fun w3=>j4 rec k L0 x0 w3.1 x4 w3.2 else j4 rec k L0 x0 x3 x4 H
noncomputable def j1 (rec:Rec) (k:Nat) (L0:TL0) (x0:Int) (x3:Sl) (x4:Int) (x16:Bool) (H:Hp):An:=bif x16 then j2 rec k L0 x0 x3 x4 H else j3 rec k x3 H
noncomputable def l0 (rec:Rec) (k:Nat):Nat→Int→Sl→Int→Hp→An
 | 0,_,_,_,_=>none
 | n + 1,x0,x3,x4,H=>bif decide (x4 ≤ 4) then (rec spec_l1In.id [.int .i64 x0,.int .i64 0,.int .i64 30] H).bind fun r1=>r1.1.toB.bind fun b2=>bif b2 then j1 rec k (l0 rec k n) x0 x3 x4 (((x0:Int).tmod 2) == 0) r1.2 else j1 rec k (l0 rec k n) x0 x3 x4 false r1.2 else j1 rec k (l0 rec k n) x0 x3 x4 false H
noncomputable def f (rec:Rec) (k:Nat) (a0:Int) (H:Hp):An:=l0 rec k k a0 (Sl.mk false H.length 0 0) 1 (H ++ [some (Blk.mk false [])])
theorem j3_eq (rec:Rec) (k:Nat):∀ x3 H,j3 rec k x3 H=ex PP o rec k (sub body [1,1,1]) (St.of 29 [(3,.sl 1 x3)] []) H (kAt PP o rec k body [1,1,1] [] (K0 PP Go.Proofs.Try.f104)):=by
 intros x3 H
 unfold j3
 kernel_rfl
theorem j4_eq (rec:Rec) (k:Nat) (n0:Nat) (L0:TL0) (hL0:PhL0 rec k n0 L0):∀ x0 x3 x4 H,j4 rec k L0 x0 x3 x4 H=ex PP o rec k (sub body [1,1,0,1,0,0,1,1]) (St.of 29 [(0,.int .i64 x0),(3,.sl 1 x3),(4,.int .i64 x4)] []) H (kAt PP o rec k body [1,1,0,1,0,0,1,1] [n0] (K0 PP Go.Proofs.Try.f104)):=by
 intros x0 x3 x4 H
 unfold j4
 try simp only [hL0,-eq_self]
 kernel_rfl
theorem j2_eq (rec:Rec) (k:Nat) (n0:Nat) (L0:TL0) (hL0:PhL0 rec k n0 L0):∀ x0 x3 x4 H,j2 rec k L0 x0 x3 x4 H=ex PP o rec k (sub body [1,1,0,1,0,0,1]) (St.of 29 [(0,.int .i64 x0),(3,.sl 1 x3),(4,.int .i64 x4)] []) H (kAt PP o rec k body [1,1,0,1,0,0,1] [n0] (K0 PP Go.Proofs.Try.f104)):=by
 intros x0 x3 x4 H
 unfold j2
 try simp only [hL0,j4_eq rec k n0 L0 hL0,-eq_self]
 kernel_rfl
theorem j1_eq (rec:Rec) (k:Nat) (n0:Nat) (L0:TL0) (hL0:PhL0 rec k n0 L0):∀ x0 x3 x4 x16 H,j1 rec k L0 x0 x3 x4 x16 H=ex PP o rec k (sub body [1,1,0,1,0,0,0,1]) (St.of 29 [(0,.int .i64 x0),(3,.sl 1 x3),(4,.int .i64 x4),(16,.bool x16)] []) H (kAt PP o rec k body [1,1,0,1,0,0,0,1] [n0] (K0 PP Go.Proofs.Try.f104)):=by
 intros x0 x3 x4 x16 H
 unfold j1
 try simp only [hL0,j2_eq rec k n0 L0 hL0,j3_eq rec k,-eq_self]
 kernel_rfl
theorem l0_eq (rec:Rec) (k:Nat):∀ n x0 x3 x4 H,l0 rec k n x0 x3 x4 H=iter (o.at (lbody (sub body [1,1,0,1,0]))) (ex PP o rec k (lbody (sub body [1,1,0,1,0]))) (kAt PP o rec k body [1,1,0,1,0] [] (K0 PP Go.Proofs.Try.f104)) n (St.of 29 [(0,.int .i64 x0),(3,.sl 1 x3),(4,.int .i64 x4)] []) H:=by
 intro n
 induction n with
 | zero=>intros; rfl
 | succ n ih=>
  intros x0 x3 x4 H
  simp only [l0,j1_eq rec k n (l0 rec k n) (fun x0 x3 x4 H=>ih x0 x3 x4 H),ih,-eq_self]
  kernel_rfl
theorem f_eq (rec:Rec) (k:Nat):∀ a0 H,f rec k a0 H=ex PP o rec k body (St.of 29 [(0,.int .i64 a0)] []) H (K0 PP Go.Proofs.Try.f104):=by
 intros a0 H
 unfold f
 try simp only [l0_eq rec k,-eq_self]
 kernel_rfl
theorem call (k:Nat):∀ a0 H,callF PP orc (k + 1) spec_MaskValues.id [.int .i64 a0] H=f (callF PP orc k) k a0 H:=by
 intros a0 H
 rw [callF_at (fn:=Go.Proofs.Try.f104) (c:=body) Go.Proofs.Try.func104 (by kernel_rfl) (Nat.le_of_ble_eq_true (by kernel_rfl)),f_eq]
 kernel_rfl
end spec_MaskValues
namespace spec_MasksValid
noncomputable def body:Code:=(Go.Proofs.Try.f27).body.getD .skip
abbrev o:=orc spec_MasksValid.id
abbrev TL0:=Sl→Int→Int→Hp→An
abbrev PhL0 (rec:Rec) (k n0:Nat) (L0:TL0):Prop:=∀ x0 x1 x5 H,L0 x0 x1 x5 H=iter (o.at (lbody (sub body [1,0,1,0]))) (ex PP o rec k (lbody (sub body [1,0,1,0]))) (kAt PP o rec k body [1,0,1,0] [] (K0 PP Go.Proofs.Try.f27)) n0 (St.of 41 [(0,.sl 1 x0),(1,.int .i64 x1),(5,.int .i64 x5)] []) H
noncomputable def j2 (rec:Rec) (k:Nat) (x0:Sl) (x1:Int) (H:Hp):An:=(rec spec_l1In.id [.int .i64 x1,.int .i64 2,.int .i64 4] H).bind fun r5=>r5.1.toB.bind fun b6=>bif b6 then some (.bool ((x0.len:Int) == (IntKind.i64.wrap (x1 * x1))),r5.2) else some (.bool false,r5.2)
noncomputable def j3 (rec:Rec) (k:Nat) (L0:TL0) (x0:Sl) (x1:Int) (x5:Int) (H:Hp):An:=L0 x0 x1 (IntKind.i64.wrap (x5 + 1)) H
noncomputable def j1 (rec:Rec) (k:Nat) (L0:TL0) (x0:Sl) (x1:Int) (x5:Int) (x30:Bool) (H:Hp):An:=bif x30 then some (.bool false,H) else j3 rec k L0 x0 x1 x5 H
noncomputable def l0 (rec:Rec) (k:Nat):Nat→Sl→Int→Int→Hp→An
 | 0,_,_,_,_=>none
 | n + 1,x0,x1,x5,H=>bif decide (x5 < (x0.len:Int)) then bif decide (0 ≤ (x5:Int)) && decide ((x5:Int) < x0.len) then (ldI .i64 H x0.blk (x0.off + (x5:Int).toNat * 1)).bind fun n1=>if (IntKind.i64.wrap ((IntKind.i64.wrap (((BitVec.ofInt IntKind.i64.bits x1 &&& BitVec.ofInt IntKind.i64.bits 7).toNat:Int))) + 1):Int) < 0 then none else (rec spec_l1In.id [.int .i64 n1,.int .i64 0,.int .i64 (IntKind.i64.wrap ((IntKind.i64.wrap (1 * 2 ^ (min (IntKind.i64.wrap ((IntKind.i64.wrap (((BitVec.ofInt IntKind.i64.bits x1 &&& BitVec.ofInt IntKind.i64.bits 7).toNat:Int))) + 1):Int).toNat IntKind.i64.bits))) - 2))] H).bind fun r2=>r2.1.toB.bind fun b3=>bif !b3 then j1 rec k (l0 rec k n) x0 x1 x5 true r2.2 else bif decide (0 ≤ (x5:Int)) && decide ((x5:Int) < x0.len) then (ldI .i64 r2.2 x0.blk (x0.off + (x5:Int).toNat * 1)).bind fun n4=>j1 rec k (l0 rec k n) x0 x1 x5 (((n4:Int).tmod 2) != 0) r2.2 else none else none else j2 rec k x0 x1 H
noncomputable def f (rec:Rec) (k:Nat) (a0:Sl) (a1:Int) (H:Hp):An:=l0 rec k k a0 a1 0 H
theorem j2_eq (rec:Rec) (k:Nat):∀ x0 x1 H,j2 rec k x0 x1 H=ex PP o rec k (sub body [1,1]) (St.of 41 [(0,.sl 1 x0),(1,.int .i64 x1)] []) H (kAt PP o rec k body [1,1] [] (K0 PP Go.Proofs.Try.f27)):=by
 intros x0 x1 H
 unfold j2
 kernel_rfl
theorem j3_eq (rec:Rec) (k:Nat) (n0:Nat) (L0:TL0) (hL0:PhL0 rec k n0 L0):∀ x0 x1 x5 H,j3 rec k L0 x0 x1 x5 H=ex PP o rec k (sub body [1,0,1,0,0,1,1]) (St.of 41 [(0,.sl 1 x0),(1,.int .i64 x1),(5,.int .i64 x5)] []) H (kAt PP o rec k body [1,0,1,0,0,1,1] [n0] (K0 PP Go.Proofs.Try.f27)):=by
 intros x0 x1 x5 H
 unfold j3
 try simp only [hL0,-eq_self]
 kernel_rfl
theorem j1_eq (rec:Rec) (k:Nat) (n0:Nat) (L0:TL0) (hL0:PhL0 rec k n0 L0):∀ x0 x1 x5 x30 H,j1 rec k L0 x0 x1 x5 x30 H=ex PP o rec k (sub body [1,0,1,0,0,1,0,0,1]) (St.of 41 [(0,.sl 1 x0),(1,.int .i64 x1),(5,.int .i64 x5),(30,.bool x30)] []) H (kAt PP o rec k body [1,0,1,0,0,1,0,0,1] [n0] (K0 PP Go.Proofs.Try.f27)):=by
 intros x0 x1 x5 x30 H
 unfold j1
 try simp only [hL0,j3_eq rec k n0 L0 hL0,-eq_self]
 kernel_rfl
theorem l0_eq (rec:Rec) (k:Nat):∀ n x0 x1 x5 H,l0 rec k n x0 x1 x5 H=iter (o.at (lbody (sub body [1,0,1,0]))) (ex PP o rec k (lbody (sub body [1,0,1,0]))) (kAt PP o rec k body [1,0,1,0] [] (K0 PP Go.Proofs.Try.f27)) n (St.of 41 [(0,.sl 1 x0),(1,.int .i64 x1),(5,.int .i64 x5)] []) H:=by
 intro n
 induction n with
 | zero=>intros; rfl
 | succ n ih=>
  intros x0 x1 x5 H
  simp only [l0,j1_eq rec k n (l0 rec k n) (fun x0 x1 x5 H=>ih x0 x1 x5 H),j2_eq rec k,ih,-eq_self]
  kernel_rfl
theorem f_eq (rec:Rec) (k:Nat):∀ a0 a1 H,f rec k a0 a1 H=ex PP o rec k body (St.of 41 [(0,.sl 1 a0),(1,.int .i64 a1)] []) H (K0 PP Go.Proofs.Try.f27):=by
 intros a0 a1 H
 unfold f
 try simp only [l0_eq rec k,-eq_self]
 kernel_rfl
theorem call (k:Nat):∀ a0 a1 H,callF PP orc (k + 1) spec_MasksValid.id [.sl 1 a0,.int .i64 a1] H=f (callF PP orc k) k a0 a1 H:=by
 intros a0 a1 H
 rw [callF_at (fn:=Go.Proofs.Try.f27) (c:=body) Go.Proofs.Try.func27 (by kernel_rfl) (Nat.le_of_ble_eq_true (by kernel_rfl)),f_eq]
 kernel_rfl
end spec_MasksValid
namespace spec_l4Holds
noncomputable def body:Code:=(Go.Proofs.Try.f120).body.getD .skip
abbrev o:=orc spec_l4Holds.id
abbrev TL0:=Sl→Int→Int→Bool→Int→Int→Sl→Int→Hp→An
abbrev PhL0 (rec:Rec) (k n0:Nat) (L0:TL0):Prop:=∀ x1 x5 x6 x7 x8 y2_0 y2_1 y2_2 H,L0 x1 x5 x6 x7 x8 y2_0 y2_1 y2_2 H=iter (o.at (lbody (sub body [1,1,1,1,0,1,0]))) (ex PP o rec k (lbody (sub body [1,1,1,1,0,1,0]))) (kAt PP o rec k body [1,1,1,1,0,1,0] [] (K0 PP Go.Proofs.Try.f120)) n0 (St.of 86 [(1,.sl 1 x1),(2,.lp 2 0),(5,.int .i64 x5),(6,.int .i64 x6),(7,.bool x7),(8,.int .i64 x8)] [(2,[.int .i64 y2_0,.sl 1 y2_1,.int .i64 y2_2])]) H
noncomputable def j2 (rec:Rec) (k:Nat) (x1:Sl) (x5:Int) (x6:Int) (x7:Bool) (y2_0:Int) (y2_1:Sl) (y2_2:Int) (H:Hp):An:=bif y2_0 == 1 then some (.bool x7,H) else bif y2_0 == 2 then some (.bool (x5 == y2_2),H) else bif y2_0 == 3 then some (.bool (x6 == y2_2),H) else bif y2_0 == 4 then bif decide (0 ≤ (0:Int)) && decide ((0:Int) < x1.len) then (ldI .i64 H x1.blk (x1.off + (0:Int).toNat * 1)).bind fun n5=>bif decide (0 ≤ (1:Int)) && decide ((1:Int) < x1.len) then (ldI .i64 H x1.blk (x1.off + (1:Int).toNat * 1)).bind fun n6=>some (.bool (decide (n5 < n6)),H) else none else none else bif decide (0 ≤ (0:Int)) && decide ((0:Int) < x1.len) then (ldI .i64 H x1.blk (x1.off + (0:Int).toNat * 1)).bind fun n7=>bif decide (0 ≤ (1:Int)) && decide ((1:Int) < x1.len) then (ldI .i64 H x1.blk (x1.off + (1:Int).toNat * 1)).bind fun n8=>some (.bool ((mx (IntKind.i64.wrap (n7 - n8)) (IntKind.i64.wrap (0 - (IntKind.i64.wrap (n7 - n8))))) == y2_2),H) else none else none
noncomputable def j3 (rec:Rec) (k:Nat) (L0:TL0) (L1:Sl→Int→Int→Bool→Int→Int→Int→Sl→Int→Hp→An) (x1:Sl) (x5:Int) (x6:Int) (x7:Bool) (x8:Int) (x9:Int) (y2_0:Int) (y2_1:Sl) (y2_2:Int) (H:Hp):An:=L1 x1 x5 x6 x7 x8 (IntKind.i64.wrap (x9 + 1)) y2_0 y2_1 y2_2 H
noncomputable def j4 (rec:Rec) (k:Nat) (L0:TL0) (x1:Sl) (x5:Int) (x6:Int) (x7:Bool) (x8:Int) (y2_0:Int) (y2_1:Sl) (y2_2:Int) (H:Hp):An:=L0 x1 x5 x6 x7 (IntKind.i64.wrap (x8 + 1)) y2_0 y2_1 y2_2 H
noncomputable def l1 (rec:Rec) (k:Nat) (L0:TL0):Nat→Sl→Int→Int→Bool→Int→Int→Int→Sl→Int→Hp→An
 | 0,_,_,_,_,_,_,_,_,_,_=>none
 | n + 1,x1,x5,x6,x7,x8,x9,y2_0,y2_1,y2_2,H=>bif decide (x9 < x8) then bif x7 then bif decide (0 ≤ (x9:Int)) && decide ((x9:Int) < x1.len) then (ldI .i64 H x1.blk (x1.off + (x9:Int).toNat * 1)).bind fun n3=>bif decide (0 ≤ (x8:Int)) && decide ((x8:Int) < x1.len) then (ldI .i64 H x1.blk (x1.off + (x8:Int).toNat * 1)).bind fun n4=>j3 rec k L0 (l1 rec k L0 n) x1 x5 x6 (n3 != n4) x8 x9 y2_0 y2_1 y2_2 H else none else none else j3 rec k L0 (l1 rec k L0 n) x1 x5 x6 false x8 x9 y2_0 y2_1 y2_2 H else j4 rec k L0 x1 x5 x6 x7 x8 y2_0 y2_1 y2_2 H
noncomputable def l0 (rec:Rec) (k:Nat):Nat→Sl→Int→Int→Bool→Int→Int→Sl→Int→Hp→An
 | 0,_,_,_,_,_,_,_,_,_=>none
 | n + 1,x1,x5,x6,x7,x8,y2_0,y2_1,y2_2,H=>bif decide (x8 < (x1.len:Int)) then bif decide (0 ≤ (x8:Int)) && decide ((x8:Int) < x1.len) then (ldI .i64 H x1.blk (x1.off + (x8:Int).toNat * 1)).bind fun n1=>bif decide (0 ≤ (x8:Int)) && decide ((x8:Int) < x1.len) then (ldI .i64 H x1.blk (x1.off + (x8:Int).toNat * 1)).bind fun n2=>l1 rec k (l0 rec k n) k x1 (IntKind.i64.wrap (x5 + n1)) (IntKind.i64.wrap (x6 * n2)) x7 x8 0 y2_0 y2_1 y2_2 H else none else none else j2 rec k x1 x5 x6 x7 y2_0 y2_1 y2_2 H
noncomputable def f (rec:Rec) (k:Nat) (a0_0:Int) (a0_1:Sl) (a0_2:Int) (a1:Sl) (H:Hp):An:=l0 rec k k a1 0 1 true 0 a0_0 a0_1 a0_2 H
theorem j2_eq (rec:Rec) (k:Nat):∀ x1 x5 x6 x7 y2_0 y2_1 y2_2 H,j2 rec k x1 x5 x6 x7 y2_0 y2_1 y2_2 H=ex PP o rec k (sub body [1,1,1,1,1]) (St.of 86 [(1,.sl 1 x1),(2,.lp 2 0),(5,.int .i64 x5),(6,.int .i64 x6),(7,.bool x7)] [(2,[.int .i64 y2_0,.sl 1 y2_1,.int .i64 y2_2])]) H (kAt PP o rec k body [1,1,1,1,1] [] (K0 PP Go.Proofs.Try.f120)):=by
 intros x1 x5 x6 x7 y2_0 y2_1 y2_2 H
 unfold j2
 kernel_rfl
theorem j3_eq (rec:Rec) (k:Nat) (n0:Nat) (L0:TL0) (hL0:PhL0 rec k n0 L0) (n1:Nat) (L1:Sl→Int→Int→Bool→Int→Int→Int→Sl→Int→Hp→An) (hL1:∀ x1 x5 x6 x7 x8 x9 y2_0 y2_1 y2_2 H,L1 x1 x5 x6 x7 x8 x9 y2_0 y2_1 y2_2 H=iter (o.at (lbody (sub body [1,1,1,1,0,1,0,0,1,0,0,1,1,1,0]))) (ex PP o rec k (lbody (sub body [1,1,1,1,0,1,0,0,1,0,0,1,1,1,0]))) (kAt PP o rec k body [1,1,1,1,0,1,0,0,1,0,0,1,1,1,0] [n0] (K0 PP Go.Proofs.Try.f120)) n1 (St.of 86 [(1,.sl 1 x1),(2,.lp 2 0),(5,.int .i64 x5),(6,.int .i64 x6),(7,.bool x7),(8,.int .i64 x8),(9,.int .i64 x9)] [(2,[.int .i64 y2_0,.sl 1 y2_1,.int .i64 y2_2])]) H):∀ x1 x5 x6 x7 x8 x9 y2_0 y2_1 y2_2 H,j3 rec k L0 L1 x1 x5 x6 x7 x8 x9 y2_0 y2_1 y2_2 H=ex PP o rec k (sub body [1,1,1,1,0,1,0,0,1,0,0,1,1,1,0,0,1,1]) (St.of 86 [(1,.sl 1 x1),(2,.lp 2 0),(5,.int .i64 x5),(6,.int .i64 x6),(7,.bool x7),(8,.int .i64 x8),(9,.int .i64 x9)] [(2,[.int .i64 y2_0,.sl 1 y2_1,.int .i64 y2_2])]) H (kAt PP o rec k body [1,1,1,1,0,1,0,0,1,0,0,1,1,1,0,0,1,1] [n0,n1] (K0 PP Go.Proofs.Try.f120)):=by
 intros x1 x5 x6 x7 x8 x9 y2_0 y2_1 y2_2 H
 unfold j3
 try simp only [hL0,hL1,-eq_self]
 kernel_rfl
theorem j4_eq (rec:Rec) (k:Nat) (n0:Nat) (L0:TL0) (hL0:PhL0 rec k n0 L0):∀ x1 x5 x6 x7 x8 y2_0 y2_1 y2_2 H,j4 rec k L0 x1 x5 x6 x7 x8 y2_0 y2_1 y2_2 H=ex PP o rec k (sub body [1,1,1,1,0,1,0,0,1,1]) (St.of 86 [(1,.sl 1 x1),(2,.lp 2 0),(5,.int .i64 x5),(6,.int .i64 x6),(7,.bool x7),(8,.int .i64 x8)] [(2,[.int .i64 y2_0,.sl 1 y2_1,.int .i64 y2_2])]) H (kAt PP o rec k body [1,1,1,1,0,1,0,0,1,1] [n0] (K0 PP Go.Proofs.Try.f120)):=by
 intros x1 x5 x6 x7 x8 y2_0 y2_1 y2_2 H
 unfold j4
 try simp only [hL0,-eq_self]
 kernel_rfl
theorem l1_eq (rec:Rec) (k:Nat) (n0:Nat) (L0:TL0) (hL0:PhL0 rec k n0 L0):∀ n x1 x5 x6 x7 x8 x9 y2_0 y2_1 y2_2 H,l1 rec k L0 n x1 x5 x6 x7 x8 x9 y2_0 y2_1 y2_2 H=iter (o.at (lbody (sub body [1,1,1,1,0,1,0,0,1,0,0,1,1,1,0]))) (ex PP o rec k (lbody (sub body [1,1,1,1,0,1,0,0,1,0,0,1,1,1,0]))) (kAt PP o rec k body [1,1,1,1,0,1,0,0,1,0,0,1,1,1,0] [n0] (K0 PP Go.Proofs.Try.f120)) n (St.of 86 [(1,.sl 1 x1),(2,.lp 2 0),(5,.int .i64 x5),(6,.int .i64 x6),(7,.bool x7),(8,.int .i64 x8),(9,.int .i64 x9)] [(2,[.int .i64 y2_0,.sl 1 y2_1,.int .i64 y2_2])]) H:=by
 intro n
 induction n with
 | zero=>intros; rfl
 | succ n ih=>
  intros x1 x5 x6 x7 x8 x9 y2_0 y2_1 y2_2 H
  simp only [l1,hL0,j3_eq rec k n0 L0 hL0 n (l1 rec k L0 n) (fun x1 x5 x6 x7 x8 x9 y2_0 y2_1 y2_2 H=>ih x1 x5 x6 x7 x8 x9 y2_0 y2_1 y2_2 H),j4_eq rec k n0 L0 hL0,ih,-eq_self]
  kernel_rfl
theorem l0_eq (rec:Rec) (k:Nat):∀ n x1 x5 x6 x7 x8 y2_0 y2_1 y2_2 H,l0 rec k n x1 x5 x6 x7 x8 y2_0 y2_1 y2_2 H=iter (o.at (lbody (sub body [1,1,1,1,0,1,0]))) (ex PP o rec k (lbody (sub body [1,1,1,1,0,1,0]))) (kAt PP o rec k body [1,1,1,1,0,1,0] [] (K0 PP Go.Proofs.Try.f120)) n (St.of 86 [(1,.sl 1 x1),(2,.lp 2 0),(5,.int .i64 x5),(6,.int .i64 x6),(7,.bool x7),(8,.int .i64 x8)] [(2,[.int .i64 y2_0,.sl 1 y2_1,.int .i64 y2_2])]) H:=by
 intro n
 induction n with
 | zero=>intros; rfl
 | succ n ih=>
  intros x1 x5 x6 x7 x8 y2_0 y2_1 y2_2 H
  simp only [l0,l1_eq rec k n (l0 rec k n) (fun x1 x5 x6 x7 x8 y2_0 y2_1 y2_2 H=>ih x1 x5 x6 x7 x8 y2_0 y2_1 y2_2 H),j2_eq rec k,ih,-eq_self]
  kernel_rfl
theorem f_eq (rec:Rec) (k:Nat):∀ a0_0 a0_1 a0_2 a1 H,f rec k a0_0 a0_1 a0_2 a1 H=ex PP o rec k body (St.of 86 [(0,.agg [.int .i64 a0_0,.sl 1 a0_1,.int .i64 a0_2]),(1,.sl 1 a1)] []) H (K0 PP Go.Proofs.Try.f120):=by
 intros a0_0 a0_1 a0_2 a1 H
 unfold f
 try simp only [l0_eq rec k,-eq_self]
 kernel_rfl
theorem call (k:Nat):∀ a0_0 a0_1 a0_2 a1 H,callF PP orc (k + 1) spec_l4Holds.id [.agg [.int .i64 a0_0,.sl 1 a0_1,.int .i64 a0_2],.sl 1 a1] H=f (callF PP orc k) k a0_0 a0_1 a0_2 a1 H:=by
 intros a0_0 a0_1 a0_2 a1 H
 rw [callF_at (fn:=Go.Proofs.Try.f120) (c:=body) Go.Proofs.Try.func120 (by kernel_rfl) (Nat.le_of_ble_eq_true (by kernel_rfl)),f_eq]
 kernel_rfl
end spec_l4Holds
end Go.Proofs.Ytchliocobgkmbaa.Rp
