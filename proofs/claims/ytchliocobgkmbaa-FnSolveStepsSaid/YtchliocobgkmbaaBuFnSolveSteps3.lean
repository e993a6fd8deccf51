/- Texts for the row of the law FnSolveSteps, part 3: the plain machine, the program's functions on it, what they come to. No conditions. -/
import Derived.Test.YtchliocobgkmbaaAb
import Derived.Test.YtchliocobgkmbaaOr
set_option linter.unusedVariables false
set_option linter.unusedSimpArgs false
set_option maxRecDepth 100000
namespace Go.Proofs.Ytchliocobgkmbaa.Rp
open Go Go.Proofs.Ytchliocobgkmbaa.Ab
namespace spec_l4Ways
noncomputable def body:Code:=(Go.Proofs.Try.f99).body.getD .skip
abbrev o:=orc spec_l4Ways.id
noncomputable def l0 (rec:Rec) (k:Nat):Nat→Sl→Sl→Int→Int→Hp→An
 | 0,_,_,_,_,_=>none
 | n + 1,x2,x3,x8,x9,H=>bif decide (x9 < x8) then bif decide (0 ≤ (x9:Int)) && decide ((x9:Int) < x3.len) then (ldI .i64 H x3.blk (x3.off + (x9:Int).toNat * 1)).bind fun n7=>bif decide (0 ≤ (x9:Int)) && decide ((x9:Int) < x2.len) then (ldI .i64 H x2.blk (x2.off + (x9:Int).toNat * 1)).bind fun n8=>if (n8:Int) < 0 then none else bif decide (0 ≤ (x9:Int)) && decide ((x9:Int) < x3.len) then (H.sto x3.blk (x3.off + (x9:Int).toNat * 1) [.int .i64 (IntKind.i64.wrap (((BitVec.ofInt IntKind.i64.bits n7 ||| BitVec.ofInt IntKind.i64.bits (IntKind.i64.wrap (1 * 2 ^ (min (n8:Int).toNat IntKind.i64.bits)))).toNat:Int)))]).bind fun H9=>(l0 rec k n) x2 x3 x8 (IntKind.i64.wrap (x9 + 1)) H9 else none else none else none else some (.tup [],H)
noncomputable def l1 (rec:Rec) (k:Nat):Nat→Sl→Sl→Sl→Sl→Int→Int→Sl→Int→Hp→An
 | 0,_,_,_,_,_,_,_,_,_=>none
 | n + 1,x1,x2,x3,x10,x11,y4_0,y4_1,y4_2,H=>bif decide (x11 < (x10.len:Int)) then bif decide (0 ≤ (x11:Int)) && decide ((x11:Int) < x10.len) then (ldI .i64 H x10.blk (x10.off + (x11:Int).toNat * 1)).bind fun n10=>(H.read 1 x2).bind fun c12=>(H.appl 1 [] 0 x2.len c12).bind fun w11=>bif true && c12.all AV.cell then bif stableB H w11.2 x10.blk (x10.off + (x11:Int).toNat * 1) 1 && true then (w11.2.app 1 w11.1 1 [.int .i64 n10]).bind fun w13=>(rec spec_l4Ways.id [.agg [.int .i64 y4_0,.sl 1 y4_1,.int .i64 y4_2],.sl 1 x1,.sl 1 w13.1,.sl 1 x3] w13.2).bind fun r14=>(l1 rec k n) x1 x2 x3 x10 (IntKind.i64.wrap (x11 + 1)) y4_0 y4_1 y4_2 r14.2 else none else none else none else some (.tup [],H)
noncomputable def f (rec:Rec) (k:Nat) (a0_0:Int) (a0_1:Sl) (a0_2:Int) (a1:Sl) (a2:Sl) (a3:Sl) (H:Hp):An:=bif (a2.len:Int) == (a0_1.len:Int) then (rec spec_l4Holds.id [.agg [.int .i64 a0_0,.sl 1 a0_1,.int .i64 a0_2],.sl 1 a2] H).bind fun r1=>r1.1.toB.bind fun b2=>bif b2 then l0 rec k k a2 a3 (a2.len:Int) 0 r1.2 else some (.tup [],r1.2) else bif decide (0 ≤ ((a2.len:Int):Int)) && decide (((a2.len:Int):Int) < a0_1.len) then (ldI .i64 H a0_1.blk (a0_1.off + ((a2.len:Int):Int).toNat * 1)).bind fun n3=>bif decide (0 ≤ (n3:Int)) && decide ((n3:Int) < a1.len) then (ldI .i64 H a1.blk (a1.off + (n3:Int).toNat * 1)).bind fun n4=>(rec spec_MaskValues.id [.int .i64 n4] H).bind fun r5=>(r5.1.toS 1).bind fun s6=>l1 rec k k a1 a2 a3 s6 0 a0_0 a0_1 a0_2 r5.2 else none else none
theorem l0_eq (rec:Rec) (k:Nat):∀ n x2 x3 x8 x9 H,l0 rec k n x2 x3 x8 x9 H=iter (o.at (lbody (sub body [1,1,0,1,0,0,1,0,1,0]))) (ex PP o rec k (lbody (sub body [1,1,0,1,0,0,1,0,1,0]))) (kAt PP o rec k body [1,1,0,1,0,0,1,0,1,0] [] (K0 PP Go.Proofs.Try.f99)) n (St.of 68 [(2,.sl 1 x2),(3,.sl 1 x3),(8,.int .i64 x8),(9,.int .i64 x9)] []) H:=by
 intro n
 induction n with
 | zero=>intros; rfl
 | succ n ih=>
  intros x2 x3 x8 x9 H
  simp only [l0,ih,-eq_self]
  kernel_rfl
theorem l1_eq (rec:Rec) (k:Nat):∀ n x1 x2 x3 x10 x11 y4_0 y4_1 y4_2 H,l1 rec k n x1 x2 x3 x10 x11 y4_0 y4_1 y4_2 H=iter (o.at (lbody (sub body [1,1,1,1,1,0]))) (ex PP o rec k (lbody (sub body [1,1,1,1,1,0]))) (kAt PP o rec k body [1,1,1,1,1,0] [] (K0 PP Go.Proofs.Try.f99)) n (St.of 68 [(1,.sl 1 x1),(2,.sl 1 x2),(3,.sl 1 x3),(4,.lp 4 0),(10,.sl 1 x10),(11,.int .i64 x11)] [(4,[.int .i64 y4_0,.sl 1 y4_1,.int .i64 y4_2])]) H:=by
 intro n
 induction n with
 | zero=>intros; rfl
 | succ n ih=>
  intros x1 x2 x3 x10 x11 y4_0 y4_1 y4_2 H
  simp only [l1,ih,-eq_self]
  kernel_rfl
theorem f_eq (rec:Rec) (k:Nat):∀ a0_0 a0_1 a0_2 a1 a2 a3 H,f rec k a0_0 a0_1 a0_2 a1 a2 a3 H=ex PP o rec k body (St.of 68 [(0,.agg [.int .i64 a0_0,.sl 1 a0_1,.int .i64 a0_2]),(1,.sl 1 a1),(2,.sl 1 a2),(3,.sl 1 a3)] []) H (K0 PP Go.Proofs.Try.f99):=by
 intros a0_0 a0_1 a0_2 a1 a2 a3 H
 unfold f
 try simp only [l0_eq rec k,l1_eq rec k,-eq_self]
 kernel_rfl
theorem call (k:Nat):∀ a0_0 a0_1 a0_2 a1 a2 a3 H,callF PP orc (k + 1) spec_l4Ways.id [.agg [.int .i64 a0_0,.sl 1 a0_1,.int .i64 a0_2],.sl 1 a1,.sl 1 a2,.sl 1 a3] H=f (callF PP orc k) k a0_0 a0_1 a0_2 a1 a2 a3 H:=by
 intros a0_0 a0_1 a0_2 a1 a2 a3 H
 rw [callF_at (fn:=Go.Proofs.Try.f99) (c:=body) Go.Proofs.Try.func99 (by kernel_rfl) (Nat.le_of_ble_eq_true (by kernel_rfl)),f_eq]
 kernel_rfl
end spec_l4Ways
namespace spec_RuleMasks
noncomputable def body:Code:=(Go.Proofs.Try.f68).body.getD .skip
abbrev o:=orc spec_RuleMasks.id
noncomputable def j1 (rec:Rec) (k:Nat) (x1:Sl) (y3_0:Int) (y3_1:Sl) (y3_2:Int) (H:Hp):An:=if 0 ≤ ((y3_1.len:Int):Int)∧((y3_1.len:Int):Int) ≤ (y3_1.len:Int)∧((y3_1.len:Int):Int) ≤ 1073741824∧8 ≤ 8192∧0 < 1 then (rec spec_l4Ways.id [.agg [.int .i64 y3_0,.sl 1 y3_1,.int .i64 y3_2],.sl 1 x1,.sl 1 (Sl.mk false ((H ++ [some (Blk.mk false (List.replicate ((y3_1.len:Int):Int).toNat [.int .i64 0]).flatten)]).length) 0 0),.sl 1 (Sl.mk false H.length 0 ((y3_1.len:Int):Int).toNat)] (H ++ [some (Blk.mk false (List.replicate ((y3_1.len:Int):Int).toNat [.int .i64 0]).flatten)] ++ [some (Blk.mk false [])])).bind fun r5=>some (.sl 1 (Sl.mk false H.length 0 ((y3_1.len:Int):Int).toNat),r5.2) else none
noncomputable def j0 (rec:Rec) (k:Nat) (x1:Sl) (x17:Bool) (y3_0:Int) (y3_1:Sl) (y3_2:Int) (H:Hp):An:=bif x17 then some (.sl 1 (Sl.mk false H.length 0 0),H ++ [some (Blk.mk false [])]) else j1 rec k x1 y3_0 y3_1 y3_2 H
noncomputable def f (rec:Rec) (k:Nat) (a0_0:Int) (a0_1:Sl) (a0_2:Int) (a1:Sl) (a2:Int) (H:Hp):An:=(rec spec_RuleValid.id [.agg [.int .i64 a0_0,.sl 1 a0_1,.int .i64 a0_2],.int .i64 a2] H).bind fun r1=>r1.1.toB.bind fun b2=>bif !b2 then j0 rec k a1 true a0_0 a0_1 a0_2 r1.2 else (rec spec_MasksValid.id [.sl 1 a1,.int .i64 a2] r1.2).bind fun r3=>r3.1.toB.bind fun b4=>j0 rec k a1 (!b4) a0_0 a0_1 a0_2 r3.2
theorem j1_eq (rec:Rec) (k:Nat):∀ x1 y3_0 y3_1 y3_2 H,j1 rec k x1 y3_0 y3_1 y3_2 H=ex PP o rec k (sub body [1,1]) (St.of 29 [(1,.sl 1 x1),(3,.lp 3 0)] [(3,[.int .i64 y3_0,.sl 1 y3_1,.int .i64 y3_2])]) H (kAt PP o rec k body [1,1] [] (K0 PP Go.Proofs.Try.f68)):=by
 intros x1 y3_0 y3_1 y3_2 H
 unfold j1
 kernel_rfl
theorem j0_eq (rec:Rec) (k:Nat):∀ x1 x17 y3_0 y3_1 y3_2 H,j0 rec k x1 x17 y3_0 y3_1 y3_2 H=ex PP o rec k (sub body [1,0,1]) (St.of 29 [(1,.sl 1 x1),(3,.lp 3 0),(17,.bool x17)] [(3,[.int .i64 y3_0,.sl 1 y3_1,.int .i64 y3_2])]) H (kAt PP o rec k body [1,0,1] [] (K0 PP Go.Proofs.Try.f68)):=by
 intros x1 x17 y3_0 y3_1 y3_2 H
 unfold j0
 try simp only [j1_eq rec k,-eq_self]
 kernel_rfl
theorem f_eq (rec:Rec) (k:Nat):∀ a0_0 a0_1 a0_2 a1 a2 H,f rec k a0_0 a0_1 a0_2 a1 a2 H=ex PP o rec k body (St.of 29 [(0,.agg [.int .i64 a0_0,.sl 1 a0_1,.int .i64 a0_2]),(1,.sl 1 a1),(2,.int .i64 a2)] []) H (K0 PP Go.Proofs.Try.f68):=by
 intros a0_0 a0_1 a0_2 a1 a2 H
 unfold f
 try simp only [j0_eq rec k,-eq_self]
 kernel_rfl
theorem call (k:Nat):∀ a0_0 a0_1 a0_2 a1 a2 H,callF PP orc (k + 1) spec_RuleMasks.id [.agg [.int .i64 a0_0,.sl 1 a0_1,.int .i64 a0_2],.sl 1 a1,.int .i64 a2] H=f (callF PP orc k) k a0_0 a0_1 a0_2 a1 a2 H:=by
 intros a0_0 a0_1 a0_2 a1 a2 H
 rw [callF_at (fn:=Go.Proofs.Try.f68) (c:=body) Go.Proofs.Try.func68 (by kernel_rfl) (Nat.le_of_ble_eq_true (by kernel_rfl)),f_eq]
 kernel_rfl
end spec_RuleMasks
namespace spec_RulePossible
noncomputable def body:Code:=(Go.Proofs.Try.f127).body.getD .skip
abbrev o:=orc spec_RulePossible.id
abbrev TL2:=Sl→Int→Sl→Int→Int→Sl→Int→Hp→An
abbrev PhL2 (rec:Rec) (k n2:Nat) (L2:TL2):Prop:=∀ x1 x2 x7 x8 y3_0 y3_1 y3_2 H,L2 x1 x2 x7 x8 y3_0 y3_1 y3_2 H=iter (o.at (lbody (sub body [1,1,1,0,1,0]))) (ex PP o rec k (lbody (sub body [1,1,1,0,1,0]))) (kAt PP o rec k body [1,1,1,0,1,0] [] (K0 PP Go.Proofs.Try.f127)) n2 (St.of 52 [(1,.sl 1 x1),(2,.int .i64 x2),(3,.lp 3 0),(7,.sl 1 x7),(8,.int .i64 x8)] [(3,[.int .i64 y3_0,.sl 1 y3_1,.int .i64 y3_2])]) H
noncomputable def j4 (rec:Rec) (k:Nat) (x2:Int) (x7:Sl) (y3_0:Int) (y3_1:Sl) (y3_2:Int) (H:Hp):An:=(rec spec_RuleMasks.id [.agg [.int .i64 y3_0,.sl 1 y3_1,.int .i64 y3_2],.sl 1 x7,.int .i64 x2] H).bind fun r8=>(r8.1.toS 1).bind fun s9=>bif decide (0 ≤ (0:Int)) && decide ((0:Int) < s9.len) then (ldI .i64 r8.2 s9.blk (s9.off + (0:Int).toNat * 1)).bind fun n10=>some (.bool (n10 != 0),r8.2) else none
noncomputable def j5 (rec:Rec) (k:Nat) (L2:TL2) (x1:Sl) (x2:Int) (x7:Sl) (x8:Int) (y3_0:Int) (y3_1:Sl) (y3_2:Int) (H:Hp):An:=L2 x1 x2 x7 (IntKind.i64.wrap (x8 + 1)) y3_0 y3_1 y3_2 H
noncomputable def j3 (rec:Rec) (k:Nat) (L2:TL2) (x1:Sl) (x2:Int) (x7:Sl) (x8:Int) (x9:Int) (y3_0:Int) (y3_1:Sl) (y3_2:Int) (H:Hp):An:=(H.app 1 x7 1 [.int .i64 x9]).bind fun w7=>j5 rec k L2 x1 x2 w7.1 x8 y3_0 y3_1 y3_2 w7.2
noncomputable def l2 (rec:Rec) (k:Nat):Nat→Sl→Int→Sl→Int→Int→Sl→Int→Hp→An
 | 0,_,_,_,_,_,_,_,_=>none
 | n + 1,x1,x2,x7,x8,y3_0,y3_1,y3_2,H=>bif decide (x8 < (x1.len:Int)) then bif decide (0 ≤ (x8:Int)) && decide ((x8:Int) < x1.len) then (ldI .i64 H x1.blk (x1.off + (x8:Int).toNat * 1)).bind fun n5=>if (n5:Int) < 0 then none else bif decide (0 ≤ (x8:Int)) && decide ((x8:Int) < x1.len) then (ldI .i64 H x1.blk (x1.off + (x8:Int).toNat * 1)).bind fun n6=>bif n6 == 0 then if (IntKind.i64.wrap (x2 + 1):Int) < 0 then none else j3 rec k (l2 rec k n) x1 x2 x7 x8 (IntKind.i64.wrap ((IntKind.i64.wrap (1 * 2 ^ (min (IntKind.i64.wrap (x2 + 1):Int).toNat IntKind.i64.bits))) - 2)) y3_0 y3_1 y3_2 H else j3 rec k (l2 rec k n) x1 x2 x7 x8 (IntKind.i64.wrap (1 * 2 ^ (min (n5:Int).toNat IntKind.i64.bits))) y3_0 y3_1 y3_2 H else none else none else j4 rec k x2 x7 y3_0 y3_1 y3_2 H
noncomputable def j1 (rec:Rec) (k:Nat) (x1:Sl) (x2:Int) (y3_0:Int) (y3_1:Sl) (y3_2:Int) (H:Hp):An:=l2 rec k k x1 x2 (Sl.mk false H.length 0 0) 0 y3_0 y3_1 y3_2 (H ++ [some (Blk.mk false [])])
noncomputable def j0 (rec:Rec) (k:Nat) (x1:Sl) (x2:Int) (x19:Bool) (y3_0:Int) (y3_1:Sl) (y3_2:Int) (H:Hp):An:=bif x19 then some (.bool false,H) else j1 rec k x1 x2 y3_0 y3_1 y3_2 H
noncomputable def f (rec:Rec) (k:Nat) (a0_0:Int) (a0_1:Sl) (a0_2:Int) (a1:Sl) (a2:Int) (H:Hp):An:=(rec spec_RuleValid.id [.agg [.int .i64 a0_0,.sl 1 a0_1,.int .i64 a0_2],.int .i64 a2] H).bind fun r1=>r1.1.toB.bind fun b2=>bif !b2 then j0 rec k a1 a2 true a0_0 a0_1 a0_2 r1.2 else (rec spec_GridValid.id [.sl 1 a1,.int .i64 a2] r1.2).bind fun r3=>r3.1.toB.bind fun b4=>j0 rec k a1 a2 (!b4) a0_0 a0_1 a0_2 r3.2
theorem j4_eq (rec:Rec) (k:Nat):∀ x2 x7 y3_0 y3_1 y3_2 H,j4 rec k x2 x7 y3_0 y3_1 y3_2 H=ex PP o rec k (sub body [1,1,1,1]) (St.of 52 [(2,.int .i64 x2),(3,.lp 3 0),(7,.sl 1 x7)] [(3,[.int .i64 y3_0,.sl 1 y3_1,.int .i64 y3_2])]) H (kAt PP o rec k body [1,1,1,1] [] (K0 PP Go.Proofs.Try.f127)):=by
 intros x2 x7 y3_0 y3_1 y3_2 H
 unfold j4
 kernel_rfl
theorem j5_eq (rec:Rec) (k:Nat) (n2:Nat) (L2:TL2) (hL2:PhL2 rec k n2 L2):∀ x1 x2 x7 x8 y3_0 y3_1 y3_2 H,j5 rec k L2 x1 x2 x7 x8 y3_0 y3_1 y3_2 H=ex PP o rec k (sub body [1,1,1,0,1,0,0,1,1]) (St.of 52 [(1,.sl 1 x1),(2,.int .i64 x2),(3,.lp 3 0),(7,.sl 1 x7),(8,.int .i64 x8)] [(3,[.int .i64 y3_0,.sl 1 y3_1,.int .i64 y3_2])]) H (kAt PP o rec k body [1,1,1,0,1,0,0,1,1] [n2] (K0 PP Go.Proofs.Try.f127)):=by
 intros x1 x2 x7 x8 y3_0 y3_1 y3_2 H
 unfold j5
 try simp only [hL2,-eq_self]
 kernel_rfl
theorem j3_eq (rec:Rec) (k:Nat) (n2:Nat) (L2:TL2) (hL2:PhL2 rec k n2 L2):∀ x1 x2 x7 x8 x9 y3_0 y3_1 y3_2 H,j3 rec k L2 x1 x2 x7 x8 x9 y3_0 y3_1 y3_2 H=ex PP o rec k (sub body [1,1,1,0,1,0,0,1,0,0,1,1]) (St.of 52 [(1,.sl 1 x1),(2,.int .i64 x2),(3,.lp 3 0),(7,.sl 1 x7),(8,.int .i64 x8),(9,.int .i64 x9)] [(3,[.int .i64 y3_0,.sl 1 y3_1,.int .i64 y3_2])]) H (kAt PP o rec k body [1,1,1,0,1,0,0,1,0,0,1,1] [n2] (K0 PP Go.Proofs.Try.f127)):=by
 intros x1 x2 x7 x8 x9 y3_0 y3_1 y3_2 H
 unfold j3
 try simp only [hL2,j5_eq rec k n2 L2 hL2,-eq_self]
 kernel_rfl
theorem l2_eq (rec:Rec) (k:Nat):∀ n x1 x2 x7 x8 y3_0 y3_1 y3_2 H,l2 rec k n x1 x2 x7 x8 y3_0 y3_1 y3_2 H=iter (o.at (lbody (sub body [1,1,1,0,1,0]))) (ex PP o rec k (lbody (sub body [1,1,1,0,1,0]))) (kAt PP o rec k body [1,1,1,0,1,0] [] (K0 PP Go.Proofs.Try.f127)) n (St.of 52 [(1,.sl 1 x1),(2,.int .i64 x2),(3,.lp 3 0),(7,.sl 1 x7),(8,.int .i64 x8)] [(3,[.int .i64 y3_0,.sl 1 y3_1,.int .i64 y3_2])]) H:=by
 intro n
 induction n with
 | zero=>intros; rfl
 | succ n ih=>
  intros x1 x2 x7 x8 y3_0 y3_1 y3_2 H
  simp only [l2,j3_eq rec k n (l2 rec k n) (fun x1 x2 x7 x8 y3_0 y3_1 y3_2 H=>ih x1 x2 x7 x8 y3_0 y3_1 y3_2 H),j4_eq rec k,ih,-eq_self]
  kernel_rfl
theorem j1_eq (rec:Rec) (k:Nat):∀ x1 x2 y3_0 y3_1 y3_2 H,j1 rec k x1 x2 y3_0 y3_1 y3_2 H=ex PP o rec k (sub body [1,1]) (St.of 52 [(1,.sl 1 x1),(2,.int .i64 x2),(3,.lp 3 0)] [(3,[.int .i64 y3_0,.sl 1 y3_1,.int .i64 y3_2])]) H (kAt PP o rec k body [1,1] [] (K0 PP Go.Proofs.Try.f127)):=by
 intros x1 x2 y3_0 y3_1 y3_2 H
 unfold j1
 try simp only [l2_eq rec k,-eq_self]
 kernel_rfl
theorem j0_eq (rec:Rec) (k:Nat):∀ x1 x2 x19 y3_0 y3_1 y3_2 H,j0 rec k x1 x2 x19 y3_0 y3_1 y3_2 H=ex PP o rec k (sub body [1,0,1]) (St.of 52 [(1,.sl 1 x1),(2,.int .i64 x2),(3,.lp 3 0),(19,.bool x19)] [(3,[.int .i64 y3_0,.sl 1 y3_1,.int .i64 y3_2])]) H (kAt PP o rec k body [1,0,1] [] (K0 PP Go.Proofs.Try.f127)):=by
 intros x1 x2 x19 y3_0 y3_1 y3_2 H
 unfold j0
 try simp only [j1_eq rec k,-eq_self]
 kernel_rfl
theorem f_eq (rec:Rec) (k:Nat):∀ a0_0 a0_1 a0_2 a1 a2 H,f rec k a0_0 a0_1 a0_2 a1 a2 H=ex PP o rec k body (St.of 52 [(0,.agg [.int .i64 a0_0,.sl 1 a0_1,.int .i64 a0_2]),(1,.sl 1 a1),(2,.int .i64 a2)] []) H (K0 PP Go.Proofs.Try.f127):=by
 intros a0_0 a0_1 a0_2 a1 a2 H
 unfold f
 try simp only [j0_eq rec k,-eq_self]
 kernel_rfl
theorem call (k:Nat):∀ a0_0 a0_1 a0_2 a1 a2 H,callF PP orc (k + 1) spec_RulePossible.id [.agg [.int .i64 a0_0,.sl 1 a0_1,.int .i64 a0_2],.sl 1 a1,.int .i64 a2] H=f (callF PP orc k) k a0_0 a0_1 a0_2 a1 a2 H:=by
 intros a0_0 a0_1 a0_2 a1 a2 H
 rw [callF_at (fn:=Go.Proofs.Try.f127) (c:=body) Go.Proofs.Try.func127 (by kernel_rfl) (Nat.le_of_ble_eq_true (by kernel_rfl)),f_eq]
 kernel_rfl
end spec_RulePossible
namespace spec_l5Fits
noncomputable def body:Code:=(Go.Proofs.Try.f122).body.getD .skip
abbrev o:=orc spec_l5Fits.id
abbrev TL0:=Sl→Int→Int→Sl→Sl→Hp→An
abbrev PhL0 (rec:Rec) (k n0:Nat) (L0:TL0):Prop:=∀ x1 x5 y2_0 y2_1 y2_2 H,L0 x1 x5 y2_0 y2_1 y2_2 H=iter (o.at (lbody (sub body [1,0,1,0]))) (ex PP o rec k (lbody (sub body [1,0,1,0]))) (kAt PP o rec k body [1,0,1,0] [] (K0 PP Go.Proofs.Try.f122)) n0 (St.of 60 [(1,.sl 1 x1),(2,.lp 2 0),(5,.int .i64 x5)] [(2,[.int .i64 y2_0,.sl 1 y2_1,.sl 3 y2_2])]) H
noncomputable def j3 (rec:Rec) (k:Nat) (L0:TL0) (x1:Sl) (x5:Int) (y2_0:Int) (y2_1:Sl) (y2_2:Sl) (H:Hp):An:=L0 x1 (IntKind.i64.wrap (x5 + 1)) y2_0 y2_1 y2_2 H
noncomputable def j1 (rec:Rec) (k:Nat) (L0:TL0) (x1:Sl) (x5:Int) (x37:Bool) (y2_0:Int) (y2_1:Sl) (y2_2:Sl) (H:Hp):An:=bif x37 then some (.bool false,H) else j3 rec k L0 x1 x5 y2_0 y2_1 y2_2 H
noncomputable def j5 (rec:Rec) (k:Nat) (x1:Sl) (y2_0:Int) (y2_1:Sl) (y2_2:Sl) (H:Hp):An:=(rec spec_l2Clash.id [.sl 1 x1,.int .i64 y2_0] H).bind fun r10=>r10.1.toB.bind fun b11=>some (.bool (!b11),r10.2)
noncomputable def l4 (rec:Rec) (k:Nat):Nat→Sl→Int→Int→Sl→Sl→Hp→An
 | 0,_,_,_,_,_,_=>none
 | n + 1,x1,x6,y2_0,y2_1,y2_2,H=>bif decide (x6 < (y2_2.len:Int)) then bif decide (0 ≤ (x6:Int)) && decide ((x6:Int) < y2_2.len) then (ldI .i64 H y2_2.blk (y2_2.off + (x6:Int).toNat * 3)).bind fun n5=>(ldS 1 H y2_2.blk (y2_2.off + (x6:Int).toNat * 3 + 1)).bind fun s6=>(ldI .i64 H y2_2.blk (y2_2.off + (x6:Int).toNat * 3 + 1 + 1)).bind fun n7=>(rec spec_RulePossible.id [.agg [.int .i64 n5,.sl 1 s6,.int .i64 n7],.sl 1 x1,.int .i64 y2_0] H).bind fun r8=>r8.1.toB.bind fun b9=>bif !b9 then some (.bool false,r8.2) else (l4 rec k n) x1 (IntKind.i64.wrap (x6 + 1)) y2_0 y2_1 y2_2 r8.2 else none else j5 rec k x1 y2_0 y2_1 y2_2 H
noncomputable def j2 (rec:Rec) (k:Nat) (x1:Sl) (y2_0:Int) (y2_1:Sl) (y2_2:Sl) (H:Hp):An:=l4 rec k k x1 0 y2_0 y2_1 y2_2 H
noncomputable def l0 (rec:Rec) (k:Nat):Nat→Sl→Int→Int→Sl→Sl→Hp→An
 | 0,_,_,_,_,_,_=>none
 | n + 1,x1,x5,y2_0,y2_1,y2_2,H=>bif decide (x5 < (x1.len:Int)) then bif decide (0 ≤ (x5:Int)) && decide ((x5:Int) < y2_1.len) then (ldI .i64 H y2_1.blk (y2_1.off + (x5:Int).toNat * 1)).bind fun n1=>bif decide (n1 > 0) then bif decide (0 ≤ (x5:Int)) && decide ((x5:Int) < x1.len) then (ldI .i64 H x1.blk (x1.off + (x5:Int).toNat * 1)).bind fun n2=>bif decide (n2 > 0) then bif decide (0 ≤ (x5:Int)) && decide ((x5:Int) < x1.len) then (ldI .i64 H x1.blk (x1.off + (x5:Int).toNat * 1)).bind fun n3=>bif decide (0 ≤ (x5:Int)) && decide ((x5:Int) < y2_1.len) then (ldI .i64 H y2_1.blk (y2_1.off + (x5:Int).toNat * 1)).bind fun n4=>j1 rec k (l0 rec k n) x1 x5 (n3 != n4) y2_0 y2_1 y2_2 H else none else none else j1 rec k (l0 rec k n) x1 x5 false y2_0 y2_1 y2_2 H else none else j1 rec k (l0 rec k n) x1 x5 false y2_0 y2_1 y2_2 H else none else j2 rec k x1 y2_0 y2_1 y2_2 H
noncomputable def f (rec:Rec) (k:Nat) (a0_0:Int) (a0_1:Sl) (a0_2:Sl) (a1:Sl) (H:Hp):An:=l0 rec k k a1 0 a0_0 a0_1 a0_2 H
theorem j3_eq (rec:Rec) (k:Nat) (n0:Nat) (L0:TL0) (hL0:PhL0 rec k n0 L0):∀ x1 x5 y2_0 y2_1 y2_2 H,j3 rec k L0 x1 x5 y2_0 y2_1 y2_2 H=ex PP o rec k (sub body [1,0,1,0,0,1,1]) (St.of 60 [(1,.sl 1 x1),(2,.lp 2 0),(5,.int .i64 x5)] [(2,[.int .i64 y2_0,.sl 1 y2_1,.sl 3 y2_2])]) H (kAt PP o rec k body [1,0,1,0,0,1,1] [n0] (K0 PP Go.Proofs.Try.f122)):=by
 intros x1 x5 y2_0 y2_1 y2_2 H
 unfold j3
 try simp only [hL0,-eq_self]
 kernel_rfl
theorem j1_eq (rec:Rec) (k:Nat) (n0:Nat) (L0:TL0) (hL0:PhL0 rec k n0 L0):∀ x1 x5 x37 y2_0 y2_1 y2_2 H,j1 rec k L0 x1 x5 x37 y2_0 y2_1 y2_2 H=ex PP o rec k (sub body [1,0,1,0,0,1,0,0,1]) (St.of 60 [(1,.sl 1 x1),(2,.lp 2 0),(5,.int .i64 x5),(37,.bool x37)] [(2,[.int .i64 y2_0,.sl 1 y2_1,.sl 3 y2_2])]) H (kAt PP o rec k body [1,0,1,0,0,1,0,0,1] [n0] (K0 PP Go.Proofs.Try.f122)):=by
 intros x1 x5 x37 y2_0 y2_1 y2_2 H
 unfold j1
 try simp only [hL0,j3_eq rec k n0 L0 hL0,-eq_self]
 kernel_rfl
theorem j5_eq (rec:Rec) (k:Nat):∀ x1 y2_0 y2_1 y2_2 H,j5 rec k x1 y2_0 y2_1 y2_2 H=ex PP o rec k (sub body [1,1,1]) (St.of 60 [(1,.sl 1 x1),(2,.lp 2 0)] [(2,[.int .i64 y2_0,.sl 1 y2_1,.sl 3 y2_2])]) H (kAt PP o rec k body [1,1,1] [] (K0 PP Go.Proofs.Try.f122)):=by
 intros x1 y2_0 y2_1 y2_2 H
 unfold j5
 kernel_rfl
theorem l4_eq (rec:Rec) (k:Nat):∀ n x1 x6 y2_0 y2_1 y2_2 H,l4 rec k n x1 x6 y2_0 y2_1 y2_2 H=iter (o.at (lbody (sub body [1,1,0,1,0]))) (ex PP o rec k (lbody (sub body [1,1,0,1,0]))) (kAt PP o rec k body [1,1,0,1,0] [] (K0 PP Go.Proofs.Try.f122)) n (St.of 60 [(1,.sl 1 x1),(2,.lp 2 0),(6,.int .i64 x6)] [(2,[.int .i64 y2_0,.sl 1 y2_1,.sl 3 y2_2])]) H:=by
 intro n
 induction n with
 | zero=>intros; rfl
 | succ n ih=>
  intros x1 x6 y2_0 y2_1 y2_2 H
  simp only [l4,j5_eq rec k,ih,-eq_self]
  kernel_rfl
theorem j2_eq (rec:Rec) (k:Nat):∀ x1 y2_0 y2_1 y2_2 H,j2 rec k x1 y2_0 y2_1 y2_2 H=ex PP o rec k (sub body [1,1]) (St.of 60 [(1,.sl 1 x1),(2,.lp 2 0)] [(2,[.int .i64 y2_0,.sl 1 y2_1,.sl 3 y2_2])]) H (kAt PP o rec k body [1,1] [] (K0 PP Go.Proofs.Try.f122)):=by
 intros x1 y2_0 y2_1 y2_2 H
 unfold j2
 try simp only [l4_eq rec k,-eq_self]
 kernel_rfl
theorem l0_eq (rec:Rec) (k:Nat):∀ n x1 x5 y2_0 y2_1 y2_2 H,l0 rec k n x1 x5 y2_0 y2_1 y2_2 H=iter (o.at (lbody (sub body [1,0,1,0]))) (ex PP o rec k (lbody (sub body [1,0,1,0]))) (kAt PP o rec k body [1,0,1,0] [] (K0 PP Go.Proofs.Try.f122)) n (St.of 60 [(1,.sl 1 x1),(2,.lp 2 0),(5,.int .i64 x5)] [(2,[.int .i64 y2_0,.sl 1 y2_1,.sl 3 y2_2])]) H:=by
 intro n
 induction n with
 | zero=>intros; rfl
 | succ n ih=>
  intros x1 x5 y2_0 y2_1 y2_2 H
  simp only [l0,j1_eq rec k n (l0 rec k n) (fun x1 x5 y2_0 y2_1 y2_2 H=>ih x1 x5 y2_0 y2_1 y2_2 H),j2_eq rec k,ih,-eq_self]
  kernel_rfl
theorem f_eq (rec:Rec) (k:Nat):∀ a0_0 a0_1 a0_2 a1 H,f rec k a0_0 a0_1 a0_2 a1 H=ex PP o rec k body (St.of 60 [(0,.agg [.int .i64 a0_0,.sl 1 a0_1,.sl 3 a0_2]),(1,.sl 1 a1)] []) H (K0 PP Go.Proofs.Try.f122):=by
 intros a0_0 a0_1 a0_2 a1 H
 unfold f
 try simp only [l0_eq rec k,-eq_self]
 kernel_rfl
theorem call (k:Nat):∀ a0_0 a0_1 a0_2 a1 H,callF PP orc (k + 1) spec_l5Fits.id [.agg [.int .i64 a0_0,.sl 1 a0_1,.sl 3 a0_2],.sl 1 a1] H=f (callF PP orc k) k a0_0 a0_1 a0_2 a1 H:=by
 intros a0_0 a0_1 a0_2 a1 H
 rw [callF_at (fn:=Go.Proofs.Try.f122) (c:=body) Go.Proofs.Try.func122 (by kernel_rfl) (Nat.le_of_ble_eq_true (by kernel_rfl)),f_eq]
 kernel_rfl
end spec_l5Fits
namespace spec_PuzzleFits
noncomputable def body:Code:=(Go.Proofs.Try.f107).body.getD .skip
noncomputable def f (rec:Rec) (k:Nat) (a0_0:Int) (a0_1:Sl) (a0_2:Sl) (a1:Sl) (H:Hp):An:=(rec spec_PuzzleValid.id [.agg [.int .i64 a0_0,.sl 1 a0_1,.sl 3 a0_2]] H).bind fun r1=>r1.1.toB.bind fun b2=>bif b2 then (rec spec_GridValid.id [.sl 1 a1,.int .i64 a0_0] r1.2).bind fun r3=>r3.1.toB.bind fun b4=>bif b4 then (rec spec_l5Fits.id [.agg [.int .i64 a0_0,.sl 1 a0_1,.sl 3 a0_2],.sl 1 a1] r3.2).bind fun r5=>r5.1.toB.bind fun b6=>some (.bool b6,r5.2) else some (.bool false,r3.2) else some (.bool false,r1.2)
theorem f_eq (rec:Rec) (k:Nat):∀ a0_0 a0_1 a0_2 a1 H,f rec k a0_0 a0_1 a0_2 a1 H=ex PP (orc spec_PuzzleFits.id) rec k body (St.of 18 [(0,.agg [.int .i64 a0_0,.sl 1 a0_1,.sl 3 a0_2]),(1,.sl 1 a1)] []) H (K0 PP Go.Proofs.Try.f107):=by
 intros a0_0 a0_1 a0_2 a1 H
 unfold f
 kernel_rfl
theorem call (k:Nat):∀ a0_0 a0_1 a0_2 a1 H,callF PP orc (k + 1) spec_PuzzleFits.id [.agg [.int .i64 a0_0,.sl 1 a0_1,.sl 3 a0_2],.sl 1 a1] H=f (callF PP orc k) k a0_0 a0_1 a0_2 a1 H:=by
 intros a0_0 a0_1 a0_2 a1 H
 rw [callF_at (fn:=Go.Proofs.Try.f107) (c:=body) Go.Proofs.Try.func107 (by kernel_rfl) (Nat.le_of_ble_eq_true (by kernel_rfl)),f_eq]
 kernel_rfl
end spec_PuzzleFits
namespace spec_PuzzleSolved
noncomputable def body:Code:=(Go.Proofs.Try.f91).body.getD .skip
noncomputable def f (rec:Rec) (k:Nat) (a0_0:Int) (a0_1:Sl) (a0_2:Sl) (a1:Sl) (H:Hp):An:=(rec spec_PuzzleFits.id [.agg [.int .i64 a0_0,.sl 1 a0_1,.sl 3 a0_2],.sl 1 a1] H).bind fun r1=>r1.1.toB.bind fun b2=>bif b2 then (rec spec_GridFilled.id [.sl 1 a1,.int .i64 a0_0] r1.2).bind fun r3=>(r3.1.toI .i64).bind fun n4=>some (.bool (n4 == (a1.len:Int)),r3.2) else some (.bool false,r1.2)
theorem f_eq (rec:Rec) (k:Nat):∀ a0_0 a0_1 a0_2 a1 H,f rec k a0_0 a0_1 a0_2 a1 H=ex PP (orc spec_PuzzleSolved.id) rec k body (St.of 17 [(0,.agg [.int .i64 a0_0,.sl 1 a0_1,.sl 3 a0_2]),(1,.sl 1 a1)] []) H (K0 PP Go.Proofs.Try.f91):=by
 intros a0_0 a0_1 a0_2 a1 H
 unfold f
 kernel_rfl
theorem call (k:Nat):∀ a0_0 a0_1 a0_2 a1 H,callF PP orc (k + 1) spec_PuzzleSolved.id [.agg [.int .i64 a0_0,.sl 1 a0_1,.sl 3 a0_2],.sl 1 a1] H=f (callF PP orc k) k a0_0 a0_1 a0_2 a1 H:=by
 intros a0_0 a0_1 a0_2 a1 H
 rw [callF_at (fn:=Go.Proofs.Try.f91) (c:=body) Go.Proofs.Try.func91 (by kernel_rfl) (Nat.le_of_ble_eq_true (by kernel_rfl)),f_eq]
 kernel_rfl
end spec_PuzzleSolved
namespace spec_l5Search
noncomputable def body:Code:=(Go.Proofs.Try.f108).body.getD .skip
abbrev o:=orc spec_l5Search.id
abbrev TL0:=Sl→Int→Int→Nat→Nat→Int→Sl→Sl→Hp→An
abbrev TL4:=Sl→Int→Int→Nat→Nat→Int→Int→Sl→Sl→Hp→An
abbrev PhL0 (rec:Rec) (k n0:Nat) (L0:TL0):Prop:=∀ x1 x2 x3 x4b x4o y5_0 y5_1 y5_2 H,L0 x1 x2 x3 x4b x4o y5_0 y5_1 y5_2 H=iter (o.at (lbody (sub body [1,0,0]))) (ex PP o rec k (lbody (sub body [1,0,0]))) (kAt PP o rec k body [1,0,0] [] (K0 PP Go.Proofs.Try.f108)) n0 (St.of 70 [(1,.sl 1 x1),(2,.int .i64 x2),(3,.int .i64 x3),(4,.ptr x4b x4o),(5,.lp 5 0)] [(5,[.int .i64 y5_0,.sl 1 y5_1,.sl 3 y5_2])]) H
abbrev PhL4 (rec:Rec) (k n4:Nat) (L4:TL4):Prop:=∀ x1 x2 x3 x4b x4o x10 y5_0 y5_1 y5_2 H,L4 x1 x2 x3 x4b x4o x10 y5_0 y5_1 y5_2 H=iter (o.at (lbody (sub body [1,1,1,1,0]))) (ex PP o rec k (lbody (sub body [1,1,1,1,0]))) (kAt PP o rec k body [1,1,1,1,0] [] (K0 PP Go.Proofs.Try.f108)) n4 (St.of 70 [(1,.sl 1 x1),(2,.int .i64 x2),(3,.int .i64 x3),(4,.ptr x4b x4o),(5,.lp 5 0),(10,.int .i64 x10)] [(5,[.int .i64 y5_0,.sl 1 y5_1,.sl 3 y5_2])]) H
noncomputable def j2 (rec:Rec) (k:Nat) (L0:TL0) (x1:Sl) (x2:Int) (x3:Int) (x4b:Nat) (x4o:Nat) (y5_0:Int) (y5_1:Sl) (y5_2:Sl) (H:Hp):An:=L0 x1 (IntKind.i64.wrap (x2 + 1)) x3 x4b x4o y5_0 y5_1 y5_2 H
noncomputable def j7 (rec:Rec) (k:Nat) (L4:TL4) (x1:Sl) (x2:Int) (x3:Int) (x4b:Nat) (x4o:Nat) (x10:Int) (y5_0:Int) (y5_1:Sl) (y5_2:Sl) (H:Hp):An:=L4 x1 x2 x3 x4b x4o (IntKind.i64.wrap (x10 + 1)) y5_0 y5_1 y5_2 H
noncomputable def j6 (rec:Rec) (k:Nat) (L4:TL4) (x1:Sl) (x2:Int) (x3:Int) (x4b:Nat) (x4o:Nat) (x10:Int) (y5_0:Int) (y5_1:Sl) (y5_2:Sl) (H:Hp):An:=(H.read 1 x1).bind fun c9=>(H.appl 1 [] 0 x1.len c9).bind fun w8=>bif true && c9.all AV.cell then bif decide (0 ≤ (x2:Int)) && decide ((x2:Int) < w8.1.len) then (w8.2.sto w8.1.blk (w8.1.off + (x2:Int).toNat * 1) [.int .i64 x10]).bind fun H10=>(rec spec_l5Fits.id [.agg [.int .i64 y5_0,.sl 1 y5_1,.sl 3 y5_2],.sl 1 w8.1] H10).bind fun r11=>r11.1.toB.bind fun b12=>bif b12 then (rec spec_l5Search.id [.agg [.int .i64 y5_0,.sl 1 y5_1,.sl 3 y5_2],.sl 1 w8.1,.int .i64 (IntKind.i64.wrap (x2 + 1)),.int .i64 x3,.ptr x4b x4o] r11.2).bind fun r13=>j7 rec k L4 x1 x2 x3 x4b x4o x10 y5_0 y5_1 y5_2 r13.2 else j7 rec k L4 x1 x2 x3 x4b x4o x10 y5_0 y5_1 y5_2 r11.2 else none else none
noncomputable def j5 (rec:Rec) (k:Nat) (L4:TL4) (x1:Sl) (x2:Int) (x3:Int) (x4b:Nat) (x4o:Nat) (x10:Int) (x50:Bool) (y5_0:Int) (y5_1:Sl) (y5_2:Sl) (H:Hp):An:=bif x50 then j6 rec k L4 x1 x2 x3 x4b x4o x10 y5_0 y5_1 y5_2 H else some (.tup [],H)
noncomputable def l4 (rec:Rec) (k:Nat):Nat→Sl→Int→Int→Nat→Nat→Int→Int→Sl→Sl→Hp→An
 | 0,_,_,_,_,_,_,_,_,_,_=>none
 | n + 1,x1,x2,x3,x4b,x4o,x10,y5_0,y5_1,y5_2,H=>bif decide (x10 ≤ y5_0) then (ldS 1 H x4b x4o).bind fun s7=>j5 rec k (l4 rec k n) x1 x2 x3 x4b x4o x10 (decide ((s7.len:Int) < x3)) y5_0 y5_1 y5_2 H else j5 rec k (l4 rec k n) x1 x2 x3 x4b x4o x10 false y5_0 y5_1 y5_2 H
noncomputable def j3 (rec:Rec) (k:Nat) (x1:Sl) (x2:Int) (x3:Int) (x4b:Nat) (x4o:Nat) (y5_0:Int) (y5_1:Sl) (y5_2:Sl) (H:Hp):An:=bif x2 == (x1.len:Int) then (ldS 1 H x4b x4o).bind fun s2=>(H.read 1 x1).bind fun c4=>(H.appl 1 [] 0 x1.len c4).bind fun w3=>bif true && c4.all AV.cell then bif stableB H w3.2 x4b x4o 1 && true then (w3.2.app 1 s2 1 [.sl 1 w3.1]).bind fun w5=>(w5.2.sto x4b x4o [.sl 1 w5.1]).bind fun H6=>some (.tup [],H6) else none else none else l4 rec k k x1 x2 x3 x4b x4o 1 y5_0 y5_1 y5_2 H
noncomputable def j1 (rec:Rec) (k:Nat) (L0:TL0) (x1:Sl) (x2:Int) (x3:Int) (x4b:Nat) (x4o:Nat) (x22:Bool) (y5_0:Int) (y5_1:Sl) (y5_2:Sl) (H:Hp):An:=bif x22 then j2 rec k L0 x1 x2 x3 x4b x4o y5_0 y5_1 y5_2 H else j3 rec k x1 x2 x3 x4b x4o y5_0 y5_1 y5_2 H
noncomputable def l0 (rec:Rec) (k:Nat):Nat→Sl→Int→Int→Nat→Nat→Int→Sl→Sl→Hp→An
 | 0,_,_,_,_,_,_,_,_,_=>none
 | n + 1,x1,x2,x3,x4b,x4o,y5_0,y5_1,y5_2,H=>bif decide (x2 < (x1.len:Int)) then bif decide (0 ≤ (x2:Int)) && decide ((x2:Int) < x1.len) then (ldI .i64 H x1.blk (x1.off + (x2:Int).toNat * 1)).bind fun n1=>j1 rec k (l0 rec k n) x1 x2 x3 x4b x4o (decide (n1 > 0)) y5_0 y5_1 y5_2 H else none else j1 rec k (l0 rec k n) x1 x2 x3 x4b x4o false y5_0 y5_1 y5_2 H
noncomputable def f (rec:Rec) (k:Nat) (a0_0:Int) (a0_1:Sl) (a0_2:Sl) (a1:Sl) (a2:Int) (a3:Int) (a4b:Nat) (a4o:Nat) (H:Hp):An:=l0 rec k k a1 a2 a3 a4b a4o a0_0 a0_1 a0_2 H
theorem j2_eq (rec:Rec) (k:Nat) (n0:Nat) (L0:TL0) (hL0:PhL0 rec k n0 L0):∀ x1 x2 x3 x4b x4o y5_0 y5_1 y5_2 H,j2 rec k L0 x1 x2 x3 x4b x4o y5_0 y5_1 y5_2 H=ex PP o rec k (sub body [1,0,0,0,1]) (St.of 70 [(1,.sl 1 x1),(2,.int .i64 x2),(3,.int .i64 x3),(4,.ptr x4b x4o),(5,.lp 5 0)] [(5,[.int .i64 y5_0,.sl 1 y5_1,.sl 3 y5_2])]) H (kAt PP o rec k body [1,0,0,0,1] [n0] (K0 PP Go.Proofs.Try.f108)):=by
 intros x1 x2 x3 x4b x4o y5_0 y5_1 y5_2 H
 unfold j2
 try simp only [hL0,-eq_self]
 kernel_rfl
theorem j7_eq (rec:Rec) (k:Nat) (n4:Nat) (L4:TL4) (hL4:PhL4 rec k n4 L4):∀ x1 x2 x3 x4b x4o x10 y5_0 y5_1 y5_2 H,j7 rec k L4 x1 x2 x3 x4b x4o x10 y5_0 y5_1 y5_2 H=ex PP o rec k (sub body [1,1,1,1,0,0,1,1]) (St.of 70 [(1,.sl 1 x1),(2,.int .i64 x2),(3,.int .i64 x3),(4,.ptr x4b x4o),(5,.lp 5 0),(10,.int .i64 x10)] [(5,[.int .i64 y5_0,.sl 1 y5_1,.sl 3 y5_2])]) H (kAt PP o rec k body [1,1,1,1,0,0,1,1] [n4] (K0 PP Go.Proofs.Try.f108)):=by
 intros x1 x2 x3 x4b x4o x10 y5_0 y5_1 y5_2 H
 unfold j7
 try simp only [hL4,-eq_self]
 kernel_rfl
theorem j6_eq (rec:Rec) (k:Nat) (n4:Nat) (L4:TL4) (hL4:PhL4 rec k n4 L4):∀ x1 x2 x3 x4b x4o x10 y5_0 y5_1 y5_2 H,j6 rec k L4 x1 x2 x3 x4b x4o x10 y5_0 y5_1 y5_2 H=ex PP o rec k (sub body [1,1,1,1,0,0,1]) (St.of 70 [(1,.sl 1 x1),(2,.int .i64 x2),(3,.int .i64 x3),(4,.ptr x4b x4o),(5,.lp 5 0),(10,.int .i64 x10)] [(5,[.int .i64 y5_0,.sl 1 y5_1,.sl 3 y5_2])]) H (kAt PP o rec k body [1,1,1,1,0,0,1] [n4] (K0 PP Go.Proofs.Try.f108)):=by
 intros x1 x2 x3 x4b x4o x10 y5_0 y5_1 y5_2 H
 unfold j6
 try simp only [hL4,j7_eq rec k n4 L4 hL4,-eq_self]
 kernel_rfl
theorem j5_eq (rec:Rec) (k:Nat) (n4:Nat) (L4:TL4) (hL4:PhL4 rec k n4 L4):∀ x1 x2 x3 x4b x4o x10 x50 y5_0 y5_1 y5_2 H,j5 rec k L4 x1 x2 x3 x4b x4o x10 x50 y5_0 y5_1 y5_2 H=ex PP o rec k (sub body [1,1,1,1,0,0,0,1]) (St.of 70 [(1,.sl 1 x1),(2,.int .i64 x2),(3,.int .i64 x3),(4,.ptr x4b x4o),(5,.lp 5 0),(10,.int .i64 x10),(50,.bool x50)] [(5,[.int .i64 y5_0,.sl 1 y5_1,.sl 3 y5_2])]) H (kAt PP o rec k body [1,1,1,1,0,0,0,1] [n4] (K0 PP Go.Proofs.Try.f108)):=by
 intros x1 x2 x3 x4b x4o x10 x50 y5_0 y5_1 y5_2 H
 unfold j5
 try simp only [hL4,j6_eq rec k n4 L4 hL4,-eq_self]
 kernel_rfl
theorem l4_eq (rec:Rec) (k:Nat):∀ n x1 x2 x3 x4b x4o x10 y5_0 y5_1 y5_2 H,l4 rec k n x1 x2 x3 x4b x4o x10 y5_0 y5_1 y5_2 H=iter (o.at (lbody (sub body [1,1,1,1,0]))) (ex PP o rec k (lbody (sub body [1,1,1,1,0]))) (kAt PP o rec k body [1,1,1,1,0] [] (K0 PP Go.Proofs.Try.f108)) n (St.of 70 [(1,.sl 1 x1),(2,.int .i64 x2),(3,.int .i64 x3),(4,.ptr x4b x4o),(5,.lp 5 0),(10,.int .i64 x10)] [(5,[.int .i64 y5_0,.sl 1 y5_1,.sl 3 y5_2])]) H:=by
 intro n
 induction n with
 | zero=>intros; rfl
 | succ n ih=>
  intros x1 x2 x3 x4b x4o x10 y5_0 y5_1 y5_2 H
  simp only [l4,j5_eq rec k n (l4 rec k n) (fun x1 x2 x3 x4b x4o x10 y5_0 y5_1 y5_2 H=>ih x1 x2 x3 x4b x4o x10 y5_0 y5_1 y5_2 H),ih,-eq_self]
  kernel_rfl
theorem j3_eq (rec:Rec) (k:Nat):∀ x1 x2 x3 x4b x4o y5_0 y5_1 y5_2 H,j3 rec k x1 x2 x3 x4b x4o y5_0 y5_1 y5_2 H=ex PP o rec k (sub body [1,1]) (St.of 70 [(1,.sl 1 x1),(2,.int .i64 x2),(3,.int .i64 x3),(4,.ptr x4b x4o),(5,.lp 5 0)] [(5,[.int .i64 y5_0,.sl 1 y5_1,.sl 3 y5_2])]) H (kAt PP o rec k body [1,1] [] (K0 PP Go.Proofs.Try.f108)):=by
 intros x1 x2 x3 x4b x4o y5_0 y5_1 y5_2 H
 unfold j3
 try simp only [l4_eq rec k,-eq_self]
 kernel_rfl
theorem j1_eq (rec:Rec) (k:Nat) (n0:Nat) (L0:TL0) (hL0:PhL0 rec k n0 L0):∀ x1 x2 x3 x4b x4o x22 y5_0 y5_1 y5_2 H,j1 rec k L0 x1 x2 x3 x4b x4o x22 y5_0 y5_1 y5_2 H=ex PP o rec k (sub body [1,0,0,0,0,1]) (St.of 70 [(1,.sl 1 x1),(2,.int .i64 x2),(3,.int .i64 x3),(4,.ptr x4b x4o),(5,.lp 5 0),(22,.bool x22)] [(5,[.int .i64 y5_0,.sl 1 y5_1,.sl 3 y5_2])]) H (kAt PP o rec k body [1,0,0,0,0,1] [n0] (K0 PP Go.Proofs.Try.f108)):=by
 intros x1 x2 x3 x4b x4o x22 y5_0 y5_1 y5_2 H
 unfold j1
 try simp only [hL0,j2_eq rec k n0 L0 hL0,j3_eq rec k,-eq_self]
 kernel_rfl
theorem l0_eq (rec:Rec) (k:Nat):∀ n x1 x2 x3 x4b x4o y5_0 y5_1 y5_2 H,l0 rec k n x1 x2 x3 x4b x4o y5_0 y5_1 y5_2 H=iter (o.at (lbody (sub body [1,0,0]))) (ex PP o rec k (lbody (sub body [1,0,0]))) (kAt PP o rec k body [1,0,0] [] (K0 PP Go.Proofs.Try.f108)) n (St.of 70 [(1,.sl 1 x1),(2,.int .i64 x2),(3,.int .i64 x3),(4,.ptr x4b x4o),(5,.lp 5 0)] [(5,[.int .i64 y5_0,.sl 1 y5_1,.sl 3 y5_2])]) H:=by
 intro n
 induction n with
 | zero=>intros; rfl
 | succ n ih=>
  intros x1 x2 x3 x4b x4o y5_0 y5_1 y5_2 H
  simp only [l0,j1_eq rec k n (l0 rec k n) (fun x1 x2 x3 x4b x4o y5_0 y5_1 y5_2 H=>ih x1 x2 x3 x4b x4o y5_0 y5_1 y5_2 H),ih,-eq_self]
  kernel_rfl
theorem f_eq (rec:Rec) (k:Nat):∀ a0_0 a0_1 a0_2 a1 a2 a3 a4b a4o H,f rec k a0_0 a0_1 a0_2 a1 a2 a3 a4b a4o H=ex PP o rec k body (St.of 70 [(0,.agg [.int .i64 a0_0,.sl 1 a0_1,.sl 3 a0_2]),(1,.sl 1 a1),(2,.int .i64 a2),(3,.int .i64 a3),(4,.ptr a4b a4o)] []) H (K0 PP Go.Proofs.Try.f108):=by
 intros a0_0 a0_1 a0_2 a1 a2 a3 a4b a4o H
 unfold f
 try simp only [l0_eq rec k,-eq_self]
 kernel_rfl
theorem call (k:Nat):∀ a0_0 a0_1 a0_2 a1 a2 a3 a4b a4o H,callF PP orc (k + 1) spec_l5Search.id [.agg [.int .i64 a0_0,.sl 1 a0_1,.sl 3 a0_2],.sl 1 a1,.int .i64 a2,.int .i64 a3,.ptr a4b a4o] H=f (callF PP orc k) k a0_0 a0_1 a0_2 a1 a2 a3 a4b a4o H:=by
 intros a0_0 a0_1 a0_2 a1 a2 a3 a4b a4o H
 rw [callF_at (fn:=Go.Proofs.Try.f108) (c:=body) Go.Proofs.Try.func108 (by kernel_rfl) (Nat.le_of_ble_eq_true (by kernel_rfl)),f_eq]
 kernel_rfl
end spec_l5Search
namespace spec_l5All
noncomputable def body:Code:=(Go.Proofs.Try.f82).body.getD .skip
noncomputable def j0 (rec:Rec) (k:Nat) (x5b:Nat) (x5o:Nat) (H:Hp):An:=(ldS 1 H x5b x5o).bind fun s5=>some (.sl 1 s5,H)
noncomputable def f (rec:Rec) (k:Nat) (a0_0:Int) (a0_1:Sl) (a0_2:Sl) (a1:Int) (H:Hp):An:=((H ++ [some (Blk.mk false [])] ++ [some (Blk.mk false [.sl 1 Sl.none])]).sto ((H ++ [some (Blk.mk false [])]).length) 0 [.sl 1 (Sl.mk false H.length 0 0)]).bind fun H1=>(rec spec_PuzzleFits.id [.agg [.int .i64 a0_0,.sl 1 a0_1,.sl 3 a0_2],.sl 1 a0_1] H1).bind fun r2=>r2.1.toB.bind fun b3=>bif b3 then (rec spec_l5Search.id [.agg [.int .i64 a0_0,.sl 1 a0_1,.sl 3 a0_2],.sl 1 a0_1,.int .i64 0,.int .i64 a1,.ptr ((H ++ [some (Blk.mk false [])]).length) 0] r2.2).bind fun r4=>j0 rec k ((H ++ [some (Blk.mk false [])]).length) 0 r4.2 else j0 rec k ((H ++ [some (Blk.mk false [])]).length) 0 r2.2
theorem j0_eq (rec:Rec) (k:Nat):∀ x5b x5o H,j0 rec k x5b x5o H=ex PP (orc spec_l5All.id) rec k (sub body [1,1,1]) (St.of 17 [(5,.ptr x5b x5o)] []) H (kAt PP (orc spec_l5All.id) rec k body [1,1,1] [] (K0 PP Go.Proofs.Try.f82)):=by
 intros x5b x5o H
 unfold j0
 kernel_rfl
theorem f_eq (rec:Rec) (k:Nat):∀ a0_0 a0_1 a0_2 a1 H,f rec k a0_0 a0_1 a0_2 a1 H=ex PP (orc spec_l5All.id) rec k body (St.of 17 [(0,.agg [.int .i64 a0_0,.sl 1 a0_1,.sl 3 a0_2]),(1,.int .i64 a1)] []) H (K0 PP Go.Proofs.Try.f82):=by
 intros a0_0 a0_1 a0_2 a1 H
 unfold f
 try simp only [j0_eq rec k,-eq_self]
 kernel_rfl
theorem call (k:Nat):∀ a0_0 a0_1 a0_2 a1 H,callF PP orc (k + 1) spec_l5All.id [.agg [.int .i64 a0_0,.sl 1 a0_1,.sl 3 a0_2],.int .i64 a1] H=f (callF PP orc k) k a0_0 a0_1 a0_2 a1 H:=by
 intros a0_0 a0_1 a0_2 a1 H
 rw [callF_at (fn:=Go.Proofs.Try.f82) (c:=body) Go.Proofs.Try.func82 (by kernel_rfl) (Nat.le_of_ble_eq_true (by kernel_rfl)),f_eq]
 kernel_rfl
end spec_l5All
namespace spec_l10One
noncomputable def body:Code:=(Go.Proofs.Try.f57).body.getD .skip
noncomputable def f (rec:Rec) (k:Nat) (a0_0:Int) (a0_1:Sl) (a0_2:Sl) (H:Hp):An:=(rec spec_l5All.id [.agg [.int .i64 a0_0,.sl 1 a0_1,.sl 3 a0_2],.int .i64 2] H).bind fun r1=>(r1.1.toS 1).bind fun s2=>some (.bool ((s2.len:Int) == 1),r1.2)
theorem f_eq (rec:Rec) (k:Nat):∀ a0_0 a0_1 a0_2 H,f rec k a0_0 a0_1 a0_2 H=ex PP (orc spec_l10One.id) rec k body (St.of 7 [(0,.agg [.int .i64 a0_0,.sl 1 a0_1,.sl 3 a0_2])] []) H (K0 PP Go.Proofs.Try.f57):=by
 intros a0_0 a0_1 a0_2 H
 unfold f
 kernel_rfl
theorem call (k:Nat):∀ a0_0 a0_1 a0_2 H,callF PP orc (k + 1) spec_l10One.id [.agg [.int .i64 a0_0,.sl 1 a0_1,.sl 3 a0_2]] H=f (callF PP orc k) k a0_0 a0_1 a0_2 H:=by
 intros a0_0 a0_1 a0_2 H
 rw [callF_at (fn:=Go.Proofs.Try.f57) (c:=body) Go.Proofs.Try.func57 (by kernel_rfl) (Nat.le_of_ble_eq_true (by kernel_rfl)),f_eq]
 kernel_rfl
end spec_l10One
namespace spec_IsRedundant
noncomputable def body:Code:=(Go.Proofs.Try.f112).body.getD .skip
noncomputable def f (rec:Rec) (k:Nat) (a0_0:Int) (a0_1:Sl) (a0_2:Sl) (a1:Int) (H:Hp):An:=(rec spec_PuzzleValid.id [.agg [.int .i64 a0_0,.sl 1 a0_1,.sl 3 a0_2]] H).bind fun r1=>r1.1.toB.bind fun b2=>bif b2 then (rec spec_l1In.id [.int .i64 a1,.int .i64 0,.int .i64 (IntKind.i64.wrap ((a0_1.len:Int) - 1))] r1.2).bind fun r3=>r3.1.toB.bind fun b4=>bif b4 then bif decide (0 ≤ (a1:Int)) && decide ((a1:Int) < a0_1.len) then (ldI .i64 r3.2 a0_1.blk (a0_1.off + (a1:Int).toNat * 1)).bind fun n5=>bif decide (n5 > 0) then (rec spec_l10One.id [.agg [.int .i64 a0_0,.sl 1 a0_1,.sl 3 a0_2]] r3.2).bind fun r6=>r6.1.toB.bind fun b7=>bif b7 then (rec spec_l10Without.id [.agg [.int .i64 a0_0,.sl 1 a0_1,.sl 3 a0_2],.int .i64 a1] r6.2).bind fun r8=>bif r8.1.isAgg 3 then ((r8.1.cel 0).toI .i64).bind fun n9=>((r8.1.cel 1).toS 1).bind fun s10=>((r8.1.cel 2).toS 3).bind fun s11=>(rec spec_l10One.id [.agg [.int .i64 n9,.sl 1 s10,.sl 3 s11]] r8.2).bind fun r12=>r12.1.toB.bind fun b13=>some (.bool b13,r12.2) else none else some (.bool false,r6.2) else some (.bool false,r3.2) else none else some (.bool false,r3.2) else some (.bool false,r1.2)
theorem f_eq (rec:Rec) (k:Nat):∀ a0_0 a0_1 a0_2 a1 H,f rec k a0_0 a0_1 a0_2 a1 H=ex PP (orc spec_IsRedundant.id) rec k body (St.of 33 [(0,.agg [.int .i64 a0_0,.sl 1 a0_1,.sl 3 a0_2]),(1,.int .i64 a1)] []) H (K0 PP Go.Proofs.Try.f112):=by
 intros a0_0 a0_1 a0_2 a1 H
 unfold f
 kernel_rfl
theorem call (k:Nat):∀ a0_0 a0_1 a0_2 a1 H,callF PP orc (k + 1) spec_IsRedundant.id [.agg [.int .i64 a0_0,.sl 1 a0_1,.sl 3 a0_2],.int .i64 a1] H=f (callF PP orc k) k a0_0 a0_1 a0_2 a1 H:=by
 intros a0_0 a0_1 a0_2 a1 H
 rw [callF_at (fn:=Go.Proofs.Try.f112) (c:=body) Go.Proofs.Try.func112 (by kernel_rfl) (Nat.le_of_ble_eq_true (by kernel_rfl)),f_eq]
 kernel_rfl
end spec_IsRedundant
namespace spec_MakeMinimal
noncomputable def body:Code:=(Go.Proofs.Try.f92).body.getD .skip
abbrev o:=orc spec_MakeMinimal.id
noncomputable def j3 (rec:Rec) (k:Nat) (L2:Int→Int→Sl→Sl→Int→Sl→Sl→Hp→An) (x5:Int) (y2_0:Int) (y2_1:Sl) (y2_2:Sl) (y4_0:Int) (y4_1:Sl) (y4_2:Sl) (H:Hp):An:=L2 (IntKind.i64.wrap (x5 + 1)) y2_0 y2_1 y2_2 y4_0 y4_1 y4_2 H
noncomputable def j4 (rec:Rec) (k:Nat) (y2_0:Int) (y2_1:Sl) (y2_2:Sl) (y4_0:Int) (y4_1:Sl) (y4_2:Sl) (H:Hp):An:=some (.tup [.agg [.int .i64 y4_0,.sl 1 y4_1,.sl 3 y4_2],.bool true],H)
noncomputable def l2 (rec:Rec) (k:Nat):Nat→Int→Int→Sl→Sl→Int→Sl→Sl→Hp→An
 | 0,_,_,_,_,_,_,_,_=>none
 | n + 1,x5,y2_0,y2_1,y2_2,y4_0,y4_1,y4_2,H=>bif decide (x5 < (y4_1.len:Int)) then (rec spec_IsRedundant.id [.agg [.int .i64 y4_0,.sl 1 y4_1,.sl 3 y4_2],.int .i64 x5] H).bind fun r13=>r13.1.toB.bind fun b14=>bif b14 then (rec spec_l10Without.id [.agg [.int .i64 y4_0,.sl 1 y4_1,.sl 3 y4_2],.int .i64 x5] r13.2).bind fun r15=>bif r15.1.isAgg 3 then ((r15.1.cel 0).toI .i64).bind fun n16=>((r15.1.cel 1).toS 1).bind fun s17=>((r15.1.cel 2).toS 3).bind fun s18=>j3 rec k (l2 rec k n) x5 y2_0 y2_1 y2_2 n16 s17 s18 r15.2 else none else j3 rec k (l2 rec k n) x5 y2_0 y2_1 y2_2 y4_0 y4_1 y4_2 r13.2 else j4 rec k y2_0 y2_1 y2_2 y4_0 y4_1 y4_2 H
noncomputable def j1 (rec:Rec) (k:Nat) (y1_0:Int) (y1_1:Sl) (y1_2:Sl) (y2_0:Int) (y2_1:Sl) (y2_2:Sl) (H:Hp):An:=(H.read 1 y1_1).bind fun c10=>(H.appl 1 [] 0 y1_1.len c10).bind fun w9=>bif true && c10.all AV.cell then (w9.2.read 3 y1_2).bind fun c12=>(w9.2.appl 3 [] 0 y1_2.len c12).bind fun w11=>bif true && c12.all AV.cell then l2 rec k k 0 y2_0 y2_1 y2_2 y1_0 w9.1 w11.1 w11.2 else none else none
noncomputable def j0 (rec:Rec) (k:Nat) (x15:Bool) (y1_0:Int) (y1_1:Sl) (y1_2:Sl) (y2_0:Int) (y2_1:Sl) (y2_2:Sl) (H:Hp):An:=bif x15 then some (.tup [.agg [.int .i64 0,.sl 1 Sl.none,.sl 3 Sl.none],.bool false],H) else j1 rec k y1_0 y1_1 y1_2 y2_0 y2_1 y2_2 H
noncomputable def f (rec:Rec) (k:Nat) (a0_0:Int) (a0_1:Sl) (a0_2:Sl) (H:Hp):An:=(rec spec_l1OwnPuzzle.id [.agg [.int .i64 a0_0,.sl 1 a0_1,.sl 3 a0_2]] H).bind fun r1=>bif r1.1.isAgg 3 then ((r1.1.cel 0).toI .i64).bind fun n2=>((r1.1.cel 1).toS 1).bind fun s3=>((r1.1.cel 2).toS 3).bind fun s4=>(rec spec_PuzzleValid.id [.agg [.int .i64 n2,.sl 1 s3,.sl 3 s4]] r1.2).bind fun r5=>r5.1.toB.bind fun b6=>bif !b6 then j0 rec k true n2 s3 s4 0 Sl.none Sl.none r5.2 else (rec spec_l10One.id [.agg [.int .i64 n2,.sl 1 s3,.sl 3 s4]] r5.2).bind fun r7=>r7.1.toB.bind fun b8=>j0 rec k (!b8) n2 s3 s4 0 Sl.none Sl.none r7.2 else none
theorem j3_eq (rec:Rec) (k:Nat) (n2:Nat) (L2:Int→Int→Sl→Sl→Int→Sl→Sl→Hp→An) (hL2:∀ x5 y2_0 y2_1 y2_2 y4_0 y4_1 y4_2 H,L2 x5 y2_0 y2_1 y2_2 y4_0 y4_1 y4_2 H=iter (o.at (lbody (sub body [1,1,1,1,0,1,0]))) (ex PP o rec k (lbody (sub body [1,1,1,1,0,1,0]))) (kAt PP o rec k body [1,1,1,1,0,1,0] [] (K0 PP Go.Proofs.Try.f92)) n2 (St.of 42 [(2,.lp 2 0),(4,.lp 4 0),(5,.int .i64 x5)] [(2,[.int .i64 y2_0,.sl 1 y2_1,.sl 3 y2_2]),(4,[.int .i64 y4_0,.sl 1 y4_1,.sl 3 y4_2])]) H):∀ x5 y2_0 y2_1 y2_2 y4_0 y4_1 y4_2 H,j3 rec k L2 x5 y2_0 y2_1 y2_2 y4_0 y4_1 y4_2 H=ex PP o rec k (sub body [1,1,1,1,0,1,0,0,1,1]) (St.of 42 [(2,.lp 2 0),(4,.lp 4 0),(5,.int .i64 x5)] [(2,[.int .i64 y2_0,.sl 1 y2_1,.sl 3 y2_2]),(4,[.int .i64 y4_0,.sl 1 y4_1,.sl 3 y4_2])]) H (kAt PP o rec k body [1,1,1,1,0,1,0,0,1,1] [n2] (K0 PP Go.Proofs.Try.f92)):=by
 intros x5 y2_0 y2_1 y2_2 y4_0 y4_1 y4_2 H
 simp only [j3,hL2,-eq_self]
 kernel_rfl
theorem j4_eq (rec:Rec) (k:Nat):∀ y2_0 y2_1 y2_2 y4_0 y4_1 y4_2 H,j4 rec k y2_0 y2_1 y2_2 y4_0 y4_1 y4_2 H=ex PP o rec k (sub body [1,1,1,1,1]) (St.of 42 [(2,.lp 2 0),(4,.lp 4 0)] [(2,[.int .i64 y2_0,.sl 1 y2_1,.sl 3 y2_2]),(4,[.int .i64 y4_0,.sl 1 y4_1,.sl 3 y4_2])]) H (kAt PP o rec k body [1,1,1,1,1] [] (K0 PP Go.Proofs.Try.f92)):=by
 intros y2_0 y2_1 y2_2 y4_0 y4_1 y4_2 H
 simp only [j4,-eq_self]
 kernel_rfl
theorem l2_eq (rec:Rec) (k:Nat):∀ n x5 y2_0 y2_1 y2_2 y4_0 y4_1 y4_2 H,l2 rec k n x5 y2_0 y2_1 y2_2 y4_0 y4_1 y4_2 H=iter (o.at (lbody (sub body [1,1,1,1,0,1,0]))) (ex PP o rec k (lbody (sub body [1,1,1,1,0,1,0]))) (kAt PP o rec k body [1,1,1,1,0,1,0] [] (K0 PP Go.Proofs.Try.f92)) n (St.of 42 [(2,.lp 2 0),(4,.lp 4 0),(5,.int .i64 x5)] [(2,[.int .i64 y2_0,.sl 1 y2_1,.sl 3 y2_2]),(4,[.int .i64 y4_0,.sl 1 y4_1,.sl 3 y4_2])]) H:=by
 intro n
 induction n with
 | zero=>intros; rfl
 | succ n ih=>
  intros x5 y2_0 y2_1 y2_2 y4_0 y4_1 y4_2 H
  simp only [l2,j3,j4,ih,-eq_self]
  kernel_rfl
theorem j1_eq (rec:Rec) (k:Nat):∀ y1_0 y1_1 y1_2 y2_0 y2_1 y2_2 H,j1 rec k y1_0 y1_1 y1_2 y2_0 y2_1 y2_2 H=ex PP o rec k (sub body [1,1,1]) (St.of 42 [(1,.lp 1 0),(2,.lp 2 0)] [(1,[.int .i64 y1_0,.sl 1 y1_1,.sl 3 y1_2]),(2,[.int .i64 y2_0,.sl 1 y2_1,.sl 3 y2_2])]) H (kAt PP o rec k body [1,1,1] [] (K0 PP Go.Proofs.Try.f92)):=by
 intros y1_0 y1_1 y1_2 y2_0 y2_1 y2_2 H
 simp only [j1,l2_eq rec k,-eq_self]
 kernel_rfl
theorem j0_eq (rec:Rec) (k:Nat):∀ x15 y1_0 y1_1 y1_2 y2_0 y2_1 y2_2 H,j0 rec k x15 y1_0 y1_1 y1_2 y2_0 y2_1 y2_2 H=ex PP o rec k (sub body [1,1,0,1]) (St.of 42 [(1,.lp 1 0),(2,.lp 2 0),(15,.bool x15)] [(1,[.int .i64 y1_0,.sl 1 y1_1,.sl 3 y1_2]),(2,[.int .i64 y2_0,.sl 1 y2_1,.sl 3 y2_2])]) H (kAt PP o rec k body [1,1,0,1] [] (K0 PP Go.Proofs.Try.f92)):=by
 intros x15 y1_0 y1_1 y1_2 y2_0 y2_1 y2_2 H
 simp only [j0,j1,l2_eq rec k,-eq_self]
 kernel_rfl
theorem f_eq (rec:Rec) (k:Nat):∀ a0_0 a0_1 a0_2 H,f rec k a0_0 a0_1 a0_2 H=ex PP o rec k body (St.of 42 [(0,.agg [.int .i64 a0_0,.sl 1 a0_1,.sl 3 a0_2])] []) H (K0 PP Go.Proofs.Try.f92):=by
 intros a0_0 a0_1 a0_2 H
 simp only [f,j0,j1,l2_eq rec k,-eq_self]
 kernel_rfl
theorem call (k:Nat):∀ a0_0 a0_1 a0_2 H,callF PP orc (k + 1) spec_MakeMinimal.id [.agg [.int .i64 a0_0,.sl 1 a0_1,.sl 3 a0_2]] H=f (callF PP orc k) k a0_0 a0_1 a0_2 H:=by
 intros a0_0 a0_1 a0_2 H
 rw [callF_at (fn:=Go.Proofs.Try.f92) (c:=body) Go.Proofs.Try.func92 (by kernel_rfl) (Nat.le_of_ble_eq_true (by kernel_rfl)),f_eq]
 kernel_rfl
end spec_MakeMinimal
end Go.Proofs.Ytchliocobgkmbaa.Rp
