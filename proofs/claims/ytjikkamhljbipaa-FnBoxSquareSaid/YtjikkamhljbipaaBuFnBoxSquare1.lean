/- Texts for the row of the law FnBoxSquare, part 1: the plain machine, the program's functions on it, what they come to. No conditions. -/
import Derived.Test.YtjikkamhljbipaaAb
import Derived.Test.YtjikkamhljbipaaOr
set_option linter.unusedVariables false
set_option linter.unusedSimpArgs false
set_option maxRecDepth 100000
namespace Go.Proofs.Ytjikkamhljbipaa.Rp
open Go Go.Proofs.Ytjikkamhljbipaa.Ab
namespace impl_RuleValid
noncomputable def body:Code:=(Go.Proofs.Try.f92).body.getD .skip
abbrev o:=orc impl_RuleValid.id
abbrev TL0:=Int→Sl→Int→Int→Int→Sl→Int→Hp→An
abbrev PhL0 (rec:Rec) (k n0:Nat) (L0:TL0):Prop:=∀ x1 x12 x13 x14 y2_0 y2_1 y2_2 H,L0 x1 x12 x13 x14 y2_0 y2_1 y2_2 H=iter (o.at (lbody (sub body [1,1,0,1,0]))) (ex PP o rec k (lbody (sub body [1,1,0,1,0]))) (kAt PP o rec k body [1,1,0,1,0] [] (K0 PP Go.Proofs.Try.f92)) n0 (St.of 105 [(1,.int .i64 x1),(2,.lp 2 0),(12,.sl 1 x12),(13,.int .i64 x13),(14,.int .i64 x14)] [(2,[.int .i64 y2_0,.sl 1 y2_1,.int .i64 y2_2])]) H
noncomputable def j3 (rec:Rec) (k:Nat) (L0:TL0) (x1:Int) (x12:Sl) (x13:Int) (x14:Int) (y2_0:Int) (y2_1:Sl) (y2_2:Int) (H:Hp):An:=L0 x1 x12 x13 (IntKind.i64.wrap (x14 + 1)) y2_0 y2_1 y2_2 H
noncomputable def j1 (rec:Rec) (k:Nat) (L0:TL0) (x1:Int) (x12:Sl) (x13:Int) (x14:Int) (x35:Bool) (y2_0:Int) (y2_1:Sl) (y2_2:Int) (H:Hp):An:=bif x35 then some (.bool false,H) else j3 rec k L0 x1 x12 x13 x14 y2_0 y2_1 y2_2 H
noncomputable def j4 (rec:Rec) (k:Nat) (x1:Int) (x7:Int) (x41:Int) (x55:Bool) (y2_0:Int) (y2_1:Sl) (y2_2:Int) (H:Hp):An:=bif x55 then bif decide (x7 ≥ 1) then bif decide (x7 ≤ 4) then bif decide (y2_2 ≥ 1) then some (.bool (decide (y2_2 ≤ (IntKind.i64.wrap ((IntKind.i64.wrap ((IntKind.i64.wrap (x1 * x1)) * x1)) * x1)))),H) else some (.bool false,H) else some (.bool false,H) else some (.bool false,H) else bif x41 == 4 then bif x7 == 2 then some (.bool (y2_2 == 0),H) else some (.bool false,H) else bif x41 == 5 then bif x7 == 2 then bif decide (y2_2 ≥ 0) then some (.bool (decide (y2_2 < x1)),H) else some (.bool false,H) else some (.bool false,H) else some (.bool false,H)
noncomputable def j2 (rec:Rec) (k:Nat) (x1:Int) (y2_0:Int) (y2_1:Sl) (y2_2:Int) (H:Hp):An:=bif y2_0 == 1 then bif decide ((y2_1.len:Int) ≥ 2) then bif decide ((y2_1.len:Int) ≤ 4) then some (.bool (y2_2 == 0),H) else some (.bool false,H) else some (.bool false,H) else bif y2_0 == 2 then j4 rec k x1 (y2_1.len:Int) y2_0 (y2_0 == 2) y2_0 y2_1 y2_2 H else j4 rec k x1 (y2_1.len:Int) y2_0 (y2_0 == 3) y2_0 y2_1 y2_2 H
noncomputable def l0 (rec:Rec) (k:Nat):Nat→Int→Sl→Int→Int→Int→Sl→Int→Hp→An
 | 0,_,_,_,_,_,_,_,_=>none
 | n + 1,x1,x12,x13,x14,y2_0,y2_1,y2_2,H=>bif decide (x14 < x13) then bif decide (0 ≤ (x14:Int)) && decide ((x14:Int) < x12.len) then (ldI .i64 H x12.blk (x12.off + (x14:Int).toNat * 1)).bind fun n3=>bif decide (n3 < 0) then j1 rec k (l0 rec k n) x1 x12 x13 x14 true y2_0 y2_1 y2_2 H else bif decide (n3 ≥ (IntKind.i64.wrap (x1 * x1))) then j1 rec k (l0 rec k n) x1 x12 x13 x14 true y2_0 y2_1 y2_2 H else if (0 ≤ (0:Int)∧(0:Int) ≤ x14∧(x14:Int) ≤ y2_1.len∧(x14:Int)=x14)∧0 < 1∧true=true then (rec slices_Contains_int.id [.sl 1 (Sl.mk y2_1.nil y2_1.blk (y2_1.off + (0:Int).toNat * 1) ((x14:Int) - 0).toNat),.int .i64 n3] H).bind fun r4=>r4.1.toB.bind fun b5=>j1 rec k (l0 rec k n) x1 x12 x13 x14 b5 y2_0 y2_1 y2_2 r4.2 else none else none else j2 rec k x1 y2_0 y2_1 y2_2 H
noncomputable def f (rec:Rec) (k:Nat) (a0_0:Int) (a0_1:Sl) (a0_2:Int) (a1:Int) (H:Hp):An:=(rec impl_sizeOk.id [.int .i64 a1] H).bind fun r1=>r1.1.toB.bind fun b2=>bif !b2 then some (.bool false,r1.2) else l0 rec k k a1 a0_1 (a0_1.len:Int) 0 a0_0 a0_1 a0_2 r1.2
theorem j3_eq (rec:Rec) (k:Nat) (n0:Nat) (L0:TL0) (hL0:PhL0 rec k n0 L0):∀ x1 x12 x13 x14 y2_0 y2_1 y2_2 H,j3 rec k L0 x1 x12 x13 x14 y2_0 y2_1 y2_2 H=ex PP o rec k (sub body [1,1,0,1,0,0,1,1,1]) (St.of 105 [(1,.int .i64 x1),(2,.lp 2 0),(12,.sl 1 x12),(13,.int .i64 x13),(14,.int .i64 x14)] [(2,[.int .i64 y2_0,.sl 1 y2_1,.int .i64 y2_2])]) H (kAt PP o rec k body [1,1,0,1,0,0,1,1,1] [n0] (K0 PP Go.Proofs.Try.f92)):=by
 intros x1 x12 x13 x14 y2_0 y2_1 y2_2 H
 unfold j3
 try simp only [hL0,-eq_self]
 kernel_rfl
theorem j1_eq (rec:Rec) (k:Nat) (n0:Nat) (L0:TL0) (hL0:PhL0 rec k n0 L0):∀ x1 x12 x13 x14 x35 y2_0 y2_1 y2_2 H,j1 rec k L0 x1 x12 x13 x14 x35 y2_0 y2_1 y2_2 H=ex PP o rec k (sub body [1,1,0,1,0,0,1,1,0,0,1,1]) (St.of 105 [(1,.int .i64 x1),(2,.lp 2 0),(12,.sl 1 x12),(13,.int .i64 x13),(14,.int .i64 x14),(35,.bool x35)] [(2,[.int .i64 y2_0,.sl 1 y2_1,.int .i64 y2_2])]) H (kAt PP o rec k body [1,1,0,1,0,0,1,1,0,0,1,1] [n0] (K0 PP Go.Proofs.Try.f92)):=by
 intros x1 x12 x13 x14 x35 y2_0 y2_1 y2_2 H
 unfold j1
 try simp only [hL0,j3_eq rec k n0 L0 hL0,-eq_self]
 kernel_rfl
theorem j4_eq (rec:Rec) (k:Nat):∀ x1 x7 x41 x55 y2_0 y2_1 y2_2 H,j4 rec k x1 x7 x41 x55 y2_0 y2_1 y2_2 H=ex PP o rec k (sub body [1,1,1,1,0,1,0,1,1,1]) (St.of 105 [(1,.int .i64 x1),(2,.lp 2 0),(7,.int .i64 x7),(41,.int .i64 x41),(55,.bool x55)] [(2,[.int .i64 y2_0,.sl 1 y2_1,.int .i64 y2_2])]) H (kAt PP o rec k body [1,1,1,1,0,1,0,1,1,1] [] (K0 PP Go.Proofs.Try.f92)):=by
 intros x1 x7 x41 x55 y2_0 y2_1 y2_2 H
 unfold j4
 kernel_rfl
theorem j2_eq (rec:Rec) (k:Nat):∀ x1 y2_0 y2_1 y2_2 H,j2 rec k x1 y2_0 y2_1 y2_2 H=ex PP o rec k (sub body [1,1,1]) (St.of 105 [(1,.int .i64 x1),(2,.lp 2 0)] [(2,[.int .i64 y2_0,.sl 1 y2_1,.int .i64 y2_2])]) H (kAt PP o rec k body [1,1,1] [] (K0 PP Go.Proofs.Try.f92)):=by
 intros x1 y2_0 y2_1 y2_2 H
 unfold j2
 try simp only [j4_eq rec k,-eq_self]
 kernel_rfl
theorem l0_eq (rec:Rec) (k:Nat):∀ n x1 x12 x13 x14 y2_0 y2_1 y2_2 H,l0 rec k n x1 x12 x13 x14 y2_0 y2_1 y2_2 H=iter (o.at (lbody (sub body [1,1,0,1,0]))) (ex PP o rec k (lbody (sub body [1,1,0,1,0]))) (kAt PP o rec k body [1,1,0,1,0] [] (K0 PP Go.Proofs.Try.f92)) n (St.of 105 [(1,.int .i64 x1),(2,.lp 2 0),(12,.sl 1 x12),(13,.int .i64 x13),(14,.int .i64 x14)] [(2,[.int .i64 y2_0,.sl 1 y2_1,.int .i64 y2_2])]) H:=by
 intro n
 induction n with
 | zero=>intros; rfl
 | succ n ih=>
  intros x1 x12 x13 x14 y2_0 y2_1 y2_2 H
  simp only [l0,j1_eq rec k n (l0 rec k n) (fun x1 x12 x13 x14 y2_0 y2_1 y2_2 H=>ih x1 x12 x13 x14 y2_0 y2_1 y2_2 H),j2_eq rec k,ih,-eq_self]
  kernel_rfl
theorem f_eq (rec:Rec) (k:Nat):∀ a0_0 a0_1 a0_2 a1 H,f rec k a0_0 a0_1 a0_2 a1 H=ex PP o rec k body (St.of 105 [(0,.agg [.int .i64 a0_0,.sl 1 a0_1,.int .i64 a0_2]),(1,.int .i64 a1)] []) H (K0 PP Go.Proofs.Try.f92):=by
 intros a0_0 a0_1 a0_2 a1 H
 unfold f
 try simp only [l0_eq rec k,-eq_self]
 kernel_rfl
theorem call (k:Nat):∀ a0_0 a0_1 a0_2 a1 H,callF PP orc (k + 1) impl_RuleValid.id [.agg [.int .i64 a0_0,.sl 1 a0_1,.int .i64 a0_2],.int .i64 a1] H=f (callF PP orc k) k a0_0 a0_1 a0_2 a1 H:=by
 intros a0_0 a0_1 a0_2 a1 H
 rw [callF_at (fn:=Go.Proofs.Try.f92) (c:=body) Go.Proofs.Try.func92 (by kernel_rfl) (Nat.le_of_ble_eq_true (by kernel_rfl)),f_eq]
 kernel_rfl
end impl_RuleValid
namespace slices_Contains_int
noncomputable def body:Code:=(Go.Proofs.Try.f101).body.getD .skip
noncomputable def f (rec:Rec) (k:Nat) (a0:Sl) (a1:Int) (H:Hp):An:=(rec slices_Index_int.id [.sl 1 a0,.int .i64 a1] H).bind fun r1=>(r1.1.toI .i64).bind fun n2=>some (.bool (decide (n2 ≥ 0)),r1.2)
theorem f_eq (rec:Rec) (k:Nat):∀ a0 a1 H,f rec k a0 a1 H=ex PP (orc slices_Contains_int.id) rec k body (St.of 9 [(0,.sl 1 a0),(1,.int .i64 a1)] []) H (K0 PP Go.Proofs.Try.f101):=by
 intros a0 a1 H
 unfold f
 kernel_rfl
theorem call (k:Nat):∀ a0 a1 H,callF PP orc (k + 1) slices_Contains_int.id [.sl 1 a0,.int .i64 a1] H=f (callF PP orc k) k a0 a1 H:=by
 intros a0 a1 H
 rw [callF_at (fn:=Go.Proofs.Try.f101) (c:=body) Go.Proofs.Try.func101 (by kernel_rfl) (Nat.le_of_ble_eq_true (by kernel_rfl)),f_eq]
 kernel_rfl
end slices_Contains_int
namespace slices_Index_int
noncomputable def body:Code:=(Go.Proofs.Try.f110).body.getD .skip
abbrev o:=orc slices_Index_int.id
noncomputable def l0 (rec:Rec) (k:Nat):Nat→Sl→Int→Int→Int→Hp→An
 | 0,_,_,_,_,_=>none
 | n + 1,x0,x1,x7,x8,H=>bif decide (x8 < x7) then bif decide (0 ≤ (x8:Int)) && decide ((x8:Int) < x0.len) then (ldI .i64 H x0.blk (x0.off + (x8:Int).toNat * 1)).bind fun n1=>bif x1 == n1 then some (.int .i64 x8,H) else (l0 rec k n) x0 x1 x7 (IntKind.i64.wrap (x8 + 1)) H else none else some (.int .i64 (-1),H)
noncomputable def f (rec:Rec) (k:Nat) (a0:Sl) (a1:Int) (H:Hp):An:=l0 rec k k a0 a1 (a0.len:Int) 0 H
theorem l0_eq (rec:Rec) (k:Nat):∀ n x0 x1 x7 x8 H,l0 rec k n x0 x1 x7 x8 H=iter (o.at (lbody (sub body [1,0,1,0]))) (ex PP o rec k (lbody (sub body [1,0,1,0]))) (kAt PP o rec k body [1,0,1,0] [] (K0 PP Go.Proofs.Try.f110)) n (St.of 19 [(0,.sl 1 x0),(1,.int .i64 x1),(7,.int .i64 x7),(8,.int .i64 x8)] []) H:=by
 intro n
 induction n with
 | zero=>intros; rfl
 | succ n ih=>
  intros x0 x1 x7 x8 H
  simp only [l0,ih,-eq_self]
  kernel_rfl
theorem f_eq (rec:Rec) (k:Nat):∀ a0 a1 H,f rec k a0 a1 H=ex PP o rec k body (St.of 19 [(0,.sl 1 a0),(1,.int .i64 a1)] []) H (K0 PP Go.Proofs.Try.f110):=by
 intros a0 a1 H
 unfold f
 try simp only [l0_eq rec k,-eq_self]
 kernel_rfl
theorem call (k:Nat):∀ a0 a1 H,callF PP orc (k + 1) slices_Index_int.id [.sl 1 a0,.int .i64 a1] H=f (callF PP orc k) k a0 a1 H:=by
 intros a0 a1 H
 rw [callF_at (fn:=Go.Proofs.Try.f110) (c:=body) Go.Proofs.Try.func110 (by kernel_rfl) (Nat.le_of_ble_eq_true (by kernel_rfl)),f_eq]
 kernel_rfl
end slices_Index_int
namespace impl_PuzzleValid
noncomputable def body:Code:=(Go.Proofs.Try.f62).body.getD .skip
abbrev o:=orc impl_PuzzleValid.id
noncomputable def l2 (rec:Rec) (k:Nat):Nat→Sl→Int→Int→Int→Sl→Sl→Hp→An
 | 0,_,_,_,_,_,_,_=>none
 | n + 1,x18,x19,x20,y1_0,y1_1,y1_2,H=>bif decide (x20 < x19) then bif decide (0 ≤ (x20:Int)) && decide ((x20:Int) < x18.len) then (ldI .i64 H x18.blk (x18.off + (x20:Int).toNat * 3)).bind fun n3=>(ldS 1 H x18.blk (x18.off + (x20:Int).toNat * 3 + 1)).bind fun s4=>(ldI .i64 H x18.blk (x18.off + (x20:Int).toNat * 3 + 1 + 1)).bind fun n5=>(rec impl_RuleValid.id [.agg [.int .i64 n3,.sl 1 s4,.int .i64 n5],.int .i64 y1_0] H).bind fun r6=>r6.1.toB.bind fun b7=>bif !b7 then some (.bool false,r6.2) else (l2 rec k n) x18 x19 (IntKind.i64.wrap (x20 + 1)) y1_0 y1_1 y1_2 r6.2 else none else some (.bool true,H)
noncomputable def j1 (rec:Rec) (k:Nat) (y1_0:Int) (y1_1:Sl) (y1_2:Sl) (H:Hp):An:=l2 rec k k y1_2 (y1_2.len:Int) 0 y1_0 y1_1 y1_2 H
noncomputable def j0 (rec:Rec) (k:Nat) (x16:Bool) (y1_0:Int) (y1_1:Sl) (y1_2:Sl) (H:Hp):An:=bif x16 then some (.bool false,H) else j1 rec k y1_0 y1_1 y1_2 H
noncomputable def f (rec:Rec) (k:Nat) (a0_0:Int) (a0_1:Sl) (a0_2:Sl) (H:Hp):An:=(rec impl_GridValid.id [.sl 1 a0_1,.int .i64 a0_0] H).bind fun r1=>r1.1.toB.bind fun b2=>bif !b2 then j0 rec k true a0_0 a0_1 a0_2 r1.2 else j0 rec k (decide ((a0_2.len:Int) > 20)) a0_0 a0_1 a0_2 r1.2
theorem l2_eq (rec:Rec) (k:Nat):∀ n x18 x19 x20 y1_0 y1_1 y1_2 H,l2 rec k n x18 x19 x20 y1_0 y1_1 y1_2 H=iter (o.at (lbody (sub body [1,1,0,1,0]))) (ex PP o rec k (lbody (sub body [1,1,0,1,0]))) (kAt PP o rec k body [1,1,0,1,0] [] (K0 PP Go.Proofs.Try.f62)) n (St.of 30 [(1,.lp 1 0),(18,.sl 3 x18),(19,.int .i64 x19),(20,.int .i64 x20)] [(1,[.int .i64 y1_0,.sl 1 y1_1,.sl 3 y1_2])]) H:=by
 intro n
 induction n with
 | zero=>intros; rfl
 | succ n ih=>
  intros x18 x19 x20 y1_0 y1_1 y1_2 H
  simp only [l2,ih,-eq_self]
  kernel_rfl
theorem j1_eq (rec:Rec) (k:Nat):∀ y1_0 y1_1 y1_2 H,j1 rec k y1_0 y1_1 y1_2 H=ex PP o rec k (sub body [1,1]) (St.of 30 [(1,.lp 1 0)] [(1,[.int .i64 y1_0,.sl 1 y1_1,.sl 3 y1_2])]) H (kAt PP o rec k body [1,1] [] (K0 PP Go.Proofs.Try.f62)):=by
 intros y1_0 y1_1 y1_2 H
 unfold j1
 try simp only [l2_eq rec k,-eq_self]
 kernel_rfl
theorem j0_eq (rec:Rec) (k:Nat):∀ x16 y1_0 y1_1 y1_2 H,j0 rec k x16 y1_0 y1_1 y1_2 H=ex PP o rec k (sub body [1,0,1]) (St.of 30 [(1,.lp 1 0),(16,.bool x16)] [(1,[.int .i64 y1_0,.sl 1 y1_1,.sl 3 y1_2])]) H (kAt PP o rec k body [1,0,1] [] (K0 PP Go.Proofs.Try.f62)):=by
 intros x16 y1_0 y1_1 y1_2 H
 unfold j0
 try simp only [j1_eq rec k,-eq_self]
 kernel_rfl
theorem f_eq (rec:Rec) (k:Nat):∀ a0_0 a0_1 a0_2 H,f rec k a0_0 a0_1 a0_2 H=ex PP o rec k body (St.of 30 [(0,.agg [.int .i64 a0_0,.sl 1 a0_1,.sl 3 a0_2])] []) H (K0 PP Go.Proofs.Try.f62):=by
 intros a0_0 a0_1 a0_2 H
 unfold f
 try simp only [j0_eq rec k,-eq_self]
 kernel_rfl
theorem call (k:Nat):∀ a0_0 a0_1 a0_2 H,callF PP orc (k + 1) impl_PuzzleValid.id [.agg [.int .i64 a0_0,.sl 1 a0_1,.sl 3 a0_2]] H=f (callF PP orc k) k a0_0 a0_1 a0_2 H:=by
 intros a0_0 a0_1 a0_2 H
 rw [callF_at (fn:=Go.Proofs.Try.f62) (c:=body) Go.Proofs.Try.func62 (by kernel_rfl) (Nat.le_of_ble_eq_true (by kernel_rfl)),f_eq]
 kernel_rfl
end impl_PuzzleValid

namespace spec_l20Open
noncomputable def body:Code:=(Go.Proofs.Try.f49).body.getD .skip
noncomputable def j0 (rec:Rec) (k:Nat) (x0:Sl) (H:Hp):An:=some (.ptr H.length 0,H ++ [some (Blk.mk false [.sl 1 x0,.int .i64 0])])
noncomputable def f (rec:Rec) (k:Nat) (a0:Sl) (H:Hp):An:=bif decide ((a0.len:Int) > 2000) then if (0 ≤ (0:Int)∧(0:Int) ≤ 2000∧(2000:Int) ≤ a0.len∧(2000:Int)=2000)∧0 < 1∧true=true then j0 rec k (Sl.mk a0.nil a0.blk (a0.off + (0:Int).toNat * 1) ((2000:Int) - 0).toNat) H else none else j0 rec k a0 H
theorem j0_eq (rec:Rec) (k:Nat):∀ x0 H,j0 rec k x0 H=ex PP (orc spec_l20Open.id) rec k (sub body [1,1]) (St.of 11 [(0,.sl 1 x0)] []) H (kAt PP (orc spec_l20Open.id) rec k body [1,1] [] (K0 PP Go.Proofs.Try.f49)):=by
 intros x0 H
 unfold j0
 kernel_rfl
theorem f_eq (rec:Rec) (k:Nat):∀ a0 H,f rec k a0 H=ex PP (orc spec_l20Open.id) rec k body (St.of 11 [(0,.sl 1 a0)] []) H (K0 PP Go.Proofs.Try.f49):=by
 intros a0 H
 unfold f
 try simp only [j0_eq rec k,-eq_self]
 kernel_rfl
theorem call (k:Nat):∀ a0 H,callF PP orc (k + 1) spec_l20Open.id [.sl 1 a0] H=f (callF PP orc k) k a0 H:=by
 intros a0 H
 rw [callF_at (fn:=Go.Proofs.Try.f49) (c:=body) Go.Proofs.Try.func49 (by kernel_rfl) (Nat.le_of_ble_eq_true (by kernel_rfl)),f_eq]
 kernel_rfl
end spec_l20Open
namespace spec_l20Rd_pick
noncomputable def body:Code:=(Go.Proofs.Try.f51).body.getD .skip
abbrev o:=orc spec_l20Rd_pick.id
noncomputable def j1 (rec:Rec) (k:Nat) (x0b:Nat) (x0o:Nat) (x1:Int) (H:Hp):An:=(ldI .i64 H x0b (x0o + 1)).bind fun n4=>(ldS 1 H x0b (x0o + 0)).bind fun s5=>bif decide ((IntKind.i64.wrap (n4 - 1)) < (s5.len:Int)) then (ldS 1 H x0b (x0o + 0)).bind fun s6=>bif decide (0 ≤ (IntKind.i64.wrap (n4 - 1):Int)) && decide ((IntKind.i64.wrap (n4 - 1):Int) < s6.len) then (ldI .u8 H s6.blk (s6.off + (IntKind.i64.wrap (n4 - 1):Int).toNat * 1)).bind fun n7=>if (x1:Int)=0 then none else some (.int .i64 ((IntKind.i64.wrap n7:Int).tmod x1),H) else none else (ldS 1 H x0b (x0o + 0)).bind fun s8=>(ldS 1 H x0b (x0o + 0)).bind fun s9=>if ((s9.len:Int):Int)=0 then none else bif decide (0 ≤ ((IntKind.i64.wrap (n4 - 1):Int).tmod (s9.len:Int):Int)) && decide (((IntKind.i64.wrap (n4 - 1):Int).tmod (s9.len:Int):Int) < s8.len) then (ldI .u8 H s8.blk (s8.off + ((IntKind.i64.wrap (n4 - 1):Int).tmod (s9.len:Int):Int).toNat * 1)).bind fun n10=>(ldS 1 H x0b (x0o + 0)).bind fun s11=>(ldS 1 H x0b (x0o + 0)).bind fun s12=>if ((s12.len:Int):Int)=0 then none else bif decide (0 ≤ ((IntKind.i64.wrap ((IntKind.i64.wrap ((IntKind.i64.wrap (n4 - 1)) * 7)) + 3):Int).tmod (s12.len:Int):Int)) && decide (((IntKind.i64.wrap ((IntKind.i64.wrap ((IntKind.i64.wrap (n4 - 1)) * 7)) + 3):Int).tmod (s12.len:Int):Int) < s11.len) then (ldI .u8 H s11.blk (s11.off + ((IntKind.i64.wrap ((IntKind.i64.wrap ((IntKind.i64.wrap (n4 - 1)) * 7)) + 3):Int).tmod (s12.len:Int):Int).toNat * 1)).bind fun n13=>(ldS 1 H x0b (x0o + 0)).bind fun s14=>if ((s14.len:Int):Int)=0 then none else if (x1:Int)=0 then none else some (.int .i64 ((IntKind.i64.wrap (((BitVec.ofInt IntKind.i64.bits (IntKind.i64.wrap ((IntKind.i64.wrap ((IntKind.i64.wrap ((IntKind.i64.wrap ((IntKind.i64.wrap n10) * 131)) + (IntKind.i64.wrap ((IntKind.i64.wrap n13) * 1117)))) + (IntKind.i64.wrap ((IntKind.i64.wrap (n4 - 1)) * 29)))) + (IntKind.i64.wrap ((IntKind.i64.wrap ((IntKind.i64.wrap (n4 - 1):Int).tdiv (s14.len:Int))) * 53)))) ^^^ BitVec.ofInt IntKind.i64.bits (IntKind.i64.wrap ((IntKind.i64.wrap ((IntKind.i64.wrap ((IntKind.i64.wrap ((IntKind.i64.wrap ((IntKind.i64.wrap n10) * 131)) + (IntKind.i64.wrap ((IntKind.i64.wrap n13) * 1117)))) + (IntKind.i64.wrap ((IntKind.i64.wrap (n4 - 1)) * 29)))) + (IntKind.i64.wrap ((IntKind.i64.wrap ((IntKind.i64.wrap (n4 - 1):Int).tdiv (s14.len:Int))) * 53))):Int).tdiv 64))).toNat:Int)):Int).tmod x1),H) else none else none
noncomputable def j0 (rec:Rec) (k:Nat) (x0b:Nat) (x0o:Nat) (x1:Int) (x24:Bool) (H:Hp):An:=bif x24 then some (.int .i64 0,H) else j1 rec k x0b x0o x1 H
noncomputable def f (rec:Rec) (k:Nat) (a0b:Nat) (a0o:Nat) (a1:Int) (H:Hp):An:=(ldI .i64 H a0b (a0o + 1)).bind fun n1=>(H.sto a0b (a0o + 1) [.int .i64 (IntKind.i64.wrap (n1 + 1))]).bind fun H2=>bif decide (a1 < 1) then j0 rec k a0b a0o a1 true H2 else (ldS 1 H2 a0b (a0o + 0)).bind fun s3=>j0 rec k a0b a0o a1 ((s3.len:Int) == 0) H2
theorem j1_eq (rec:Rec) (k:Nat):∀ x0b x0o x1 H,j1 rec k x0b x0o x1 H=ex PP o rec k (sub body [1,1,1]) (St.of 99 [(0,.ptr x0b x0o),(1,.int .i64 x1)] []) H (kAt PP o rec k body [1,1,1] [] (K0 PP Go.Proofs.Try.f51)):=by
 intros x0b x0o x1 H
 unfold j1
 kernel_rfl
theorem j0_eq (rec:Rec) (k:Nat):∀ x0b x0o x1 x24 H,j0 rec k x0b x0o x1 x24 H=ex PP o rec k (sub body [1,1,0,1]) (St.of 99 [(0,.ptr x0b x0o),(1,.int .i64 x1),(24,.bool x24)] []) H (kAt PP o rec k body [1,1,0,1] [] (K0 PP Go.Proofs.Try.f51)):=by
 intros x0b x0o x1 x24 H
 unfold j0
 try simp only [j1_eq rec k,-eq_self]
 kernel_rfl
theorem f_eq (rec:Rec) (k:Nat):∀ a0b a0o a1 H,f rec k a0b a0o a1 H=ex PP o rec k body (St.of 99 [(0,.ptr a0b a0o),(1,.int .i64 a1)] []) H (K0 PP Go.Proofs.Try.f51):=by
 intros a0b a0o a1 H
 unfold f
 try simp only [j0_eq rec k,-eq_self]
 kernel_rfl
theorem call (k:Nat):∀ a0b a0o a1 H,callF PP orc (k + 1) spec_l20Rd_pick.id [.ptr a0b a0o,.int .i64 a1] H=f (callF PP orc k) k a0b a0o a1 H:=by
 intros a0b a0o a1 H
 rw [callF_at (fn:=Go.Proofs.Try.f51) (c:=body) Go.Proofs.Try.func51 (by kernel_rfl) (Nat.le_of_ble_eq_true (by kernel_rfl)),f_eq]
 kernel_rfl
end spec_l20Rd_pick
namespace spec_l20Rd_odd
noncomputable def body:Code:=(Go.Proofs.Try.f82).body.getD .skip
noncomputable def f (rec:Rec) (k:Nat) (a0b:Nat) (a0o:Nat) (a1:Int) (H:Hp):An:=bif decide (a1 > 0) then (rec spec_l20Rd_pick.id [.ptr a0b a0o,.int .i64 a1] H).bind fun r1=>(r1.1.toI .i64).bind fun n2=>some (.bool (n2 == (IntKind.i64.wrap (a1 - 1))),r1.2) else some (.bool false,H)
theorem f_eq (rec:Rec) (k:Nat):∀ a0b a0o a1 H,f rec k a0b a0o a1 H=ex PP (orc spec_l20Rd_odd.id) rec k body (St.of 15 [(0,.ptr a0b a0o),(1,.int .i64 a1)] []) H (K0 PP Go.Proofs.Try.f82):=by
 intros a0b a0o a1 H
 unfold f
 kernel_rfl
theorem call (k:Nat):∀ a0b a0o a1 H,callF PP orc (k + 1) spec_l20Rd_odd.id [.ptr a0b a0o,.int .i64 a1] H=f (callF PP orc k) k a0b a0o a1 H:=by
 intros a0b a0o a1 H
 rw [callF_at (fn:=Go.Proofs.Try.f82) (c:=body) Go.Proofs.Try.func82 (by kernel_rfl) (Nat.le_of_ble_eq_true (by kernel_rfl)),f_eq]
 kernel_rfl
end spec_l20Rd_odd
namespace spec_l20Size
noncomputable def body:Code:=(Go.Proofs.Try.f50).body.getD .skip
noncomputable def f (rec:Rec) (k:Nat) (a0b:Nat) (a0o:Nat) (a1:Int) (H:Hp):An:=(rec spec_l20Rd_odd.id [.ptr a0b a0o,.int .i64 a1] H).bind fun r1=>r1.1.toB.bind fun b2=>bif b2 then (rec spec_l20Rd_pick.id [.ptr a0b a0o,.int .i64 3] (r1.2 ++ [some (Blk.mk false [.int .i64 1,.int .i64 5,.int .i64 (-1)])])).bind fun r3=>(r3.1.toI .i64).bind fun n4=>bif decide (0 ≤ (n4:Int)) && decide ((n4:Int) < (Sl.mk false r1.2.length 0 3).len) then (ldI .i64 r3.2 ((Sl.mk false r1.2.length 0 3).blk) ((Sl.mk false r1.2.length 0 3).off + (n4:Int).toNat * 1)).bind fun n5=>some (.int .i64 n5,r3.2) else none else (rec spec_l20Rd_pick.id [.ptr a0b a0o,.int .i64 5] (r1.2 ++ [some (Blk.mk false [.int .i64 2,.int .i64 3,.int .i64 3,.int .i64 4,.int .i64 4])])).bind fun r6=>(r6.1.toI .i64).bind fun n7=>bif decide (0 ≤ (n7:Int)) && decide ((n7:Int) < (Sl.mk false r1.2.length 0 5).len) then (ldI .i64 r6.2 ((Sl.mk false r1.2.length 0 5).blk) ((Sl.mk false r1.2.length 0 5).off + (n7:Int).toNat * 1)).bind fun n8=>some (.int .i64 n8,r6.2) else none
theorem f_eq (rec:Rec) (k:Nat):∀ a0b a0o a1 H,f rec k a0b a0o a1 H=ex PP (orc spec_l20Size.id) rec k body (St.of 18 [(0,.ptr a0b a0o),(1,.int .i64 a1)] []) H (K0 PP Go.Proofs.Try.f50):=by
 intros a0b a0o a1 H
 unfold f
 kernel_rfl
theorem call (k:Nat):∀ a0b a0o a1 H,callF PP orc (k + 1) spec_l20Size.id [.ptr a0b a0o,.int .i64 a1] H=f (callF PP orc k) k a0b a0o a1 H:=by
 intros a0b a0o a1 H
 rw [callF_at (fn:=Go.Proofs.Try.f50) (c:=body) Go.Proofs.Try.func50 (by kernel_rfl) (Nat.le_of_ble_eq_true (by kernel_rfl)),f_eq]
 kernel_rfl
end spec_l20Size
namespace spec_SquareNumber
noncomputable def body:Code:=(Go.Proofs.Try.f16).body.getD .skip
abbrev o:=orc spec_SquareNumber.id
noncomputable def j1 (rec:Rec) (k:Nat) (x0:Int) (x1:Int) (H:Hp):An:=((H ++ [some (Blk.mk false [.int .i64 0])]).sto H.length 0 [.int .i64 x1]).bind fun H3=>if 0 ≤ (IntKind.i64.wrap (x0 * x0):Int)∧(IntKind.i64.wrap (x0 * x0):Int) ≤ IntKind.i64.wrap (x0 * x0)∧(IntKind.i64.wrap (x0 * x0):Int) ≤ 1073741824∧8 ≤ 8192∧0 < 1 then (rec spec_l2Search.id [.sl 1 (Sl.mk false H3.length 0 (IntKind.i64.wrap (x0 * x0):Int).toNat),.int .i64 x0,.int .i64 0,.ptr H.length 0] (H3 ++ [some (Blk.mk false (List.replicate (IntKind.i64.wrap (x0 * x0):Int).toNat [.int .i64 0]).flatten)])).bind fun r4=>(r4.1.toS 1).bind fun s5=>(r4.2.read 1 s5).bind fun c7=>(r4.2.appl 1 [] 0 s5.len c7).bind fun w6=>bif true && c7.all AV.cell then some (.sl 1 w6.1,w6.2) else none else none
noncomputable def j0 (rec:Rec) (k:Nat) (x0:Int) (x1:Int) (x14:Bool) (H:Hp):An:=bif x14 then some (.sl 1 (Sl.mk false H.length 0 0),H ++ [some (Blk.mk false [])]) else j1 rec k x0 x1 H
noncomputable def f (rec:Rec) (k:Nat) (a0:Int) (a1:Int) (H:Hp):An:=(rec spec_l1In.id [.int .i64 a0,.int .i64 2,.int .i64 4] H).bind fun r1=>r1.1.toB.bind fun b2=>bif !b2 then j0 rec k a0 a1 true r1.2 else j0 rec k a0 a1 (decide (a1 < 0)) r1.2
theorem j1_eq (rec:Rec) (k:Nat):∀ x0 x1 H,j1 rec k x0 x1 H=ex PP o rec k (sub body [1,1]) (St.of 27 [(0,.int .i64 x0),(1,.int .i64 x1)] []) H (kAt PP o rec k body [1,1] [] (K0 PP Go.Proofs.Try.f16)):=by
 intros x0 x1 H
 unfold j1
 kernel_rfl
theorem j0_eq (rec:Rec) (k:Nat):∀ x0 x1 x14 H,j0 rec k x0 x1 x14 H=ex PP o rec k (sub body [1,0,1]) (St.of 27 [(0,.int .i64 x0),(1,.int .i64 x1),(14,.bool x14)] []) H (kAt PP o rec k body [1,0,1] [] (K0 PP Go.Proofs.Try.f16)):=by
 intros x0 x1 x14 H
 unfold j0
 try simp only [j1_eq rec k,-eq_self]
 kernel_rfl
theorem f_eq (rec:Rec) (k:Nat):∀ a0 a1 H,f rec k a0 a1 H=ex PP o rec k body (St.of 27 [(0,.int .i64 a0),(1,.int .i64 a1)] []) H (K0 PP Go.Proofs.Try.f16):=by
 intros a0 a1 H
 unfold f
 try simp only [j0_eq rec k,-eq_self]
 kernel_rfl
theorem call (k:Nat):∀ a0 a1 H,callF PP orc (k + 1) spec_SquareNumber.id [.int .i64 a0,.int .i64 a1] H=f (callF PP orc k) k a0 a1 H:=by
 intros a0 a1 H
 rw [callF_at (fn:=Go.Proofs.Try.f16) (c:=body) Go.Proofs.Try.func16 (by kernel_rfl) (Nat.le_of_ble_eq_true (by kernel_rfl)),f_eq]
 kernel_rfl
end spec_SquareNumber
namespace spec_l2Search
noncomputable def body:Code:=(Go.Proofs.Try.f57).body.getD .skip
abbrev o:=orc spec_l2Search.id
noncomputable def j1 (rec:Rec) (k:Nat) (L0:Sl→Int→Int→Nat→Nat→Int→Hp→An) (x0:Sl) (x1:Int) (x2:Int) (x3b:Nat) (x3o:Nat) (x9:Int) (H:Hp):An:=L0 x0 x1 x2 x3b x3o (IntKind.i64.wrap (x9 + 1)) H
noncomputable def l0 (rec:Rec) (k:Nat):Nat→Sl→Int→Int→Nat→Nat→Int→Hp→An
 | 0,_,_,_,_,_,_,_=>none
 | n + 1,x0,x1,x2,x3b,x3o,x9,H=>bif decide (x9 ≤ x1) then (H.read 1 x0).bind fun c5=>(H.appl 1 [] 0 x0.len c5).bind fun w4=>bif true && c5.all AV.cell then bif decide (0 ≤ (x2:Int)) && decide ((x2:Int) < w4.1.len) then (w4.2.sto w4.1.blk (w4.1.off + (x2:Int).toNat * 1) [.int .i64 x9]).bind fun H6=>(rec spec_l2Clash.id [.sl 1 w4.1,.int .i64 x1] H6).bind fun r7=>r7.1.toB.bind fun b8=>bif b8 then j1 rec k (l0 rec k n) x0 x1 x2 x3b x3o x9 r7.2 else (rec spec_l2Search.id [.sl 1 w4.1,.int .i64 x1,.int .i64 (IntKind.i64.wrap (x2 + 1)),.ptr x3b x3o] r7.2).bind fun r9=>(r9.1.toS 1).bind fun s10=>bif decide ((s10.len:Int) > 0) then some (.sl 1 s10,r9.2) else j1 rec k (l0 rec k n) x0 x1 x2 x3b x3o x9 r9.2 else none else none else some (.sl 1 Sl.none,H)
noncomputable def f (rec:Rec) (k:Nat) (a0:Sl) (a1:Int) (a2:Int) (a3b:Nat) (a3o:Nat) (H:Hp):An:=bif a2 == (a0.len:Int) then (ldI .i64 H a3b a3o).bind fun n1=>bif n1 == 0 then some (.sl 1 a0,H) else (ldI .i64 H a3b a3o).bind fun n2=>(H.sto a3b a3o [.int .i64 (IntKind.i64.wrap (n2 - 1))]).bind fun H3=>some (.sl 1 Sl.none,H3) else l0 rec k k a0 a1 a2 a3b a3o 1 H
theorem j1_eq (rec:Rec) (k:Nat) (n0:Nat) (L0:Sl→Int→Int→Nat→Nat→Int→Hp→An) (hL0:∀ x0 x1 x2 x3b x3o x9 H,L0 x0 x1 x2 x3b x3o x9 H=iter (o.at (lbody (sub body [1,1,0,1,0]))) (ex PP o rec k (lbody (sub body [1,1,0,1,0]))) (kAt PP o rec k body [1,1,0,1,0] [] (K0 PP Go.Proofs.Try.f57)) n0 (St.of 52 [(0,.sl 1 x0),(1,.int .i64 x1),(2,.int .i64 x2),(3,.ptr x3b x3o),(9,.int .i64 x9)] []) H):∀ x0 x1 x2 x3b x3o x9 H,j1 rec k L0 x0 x1 x2 x3b x3o x9 H=ex PP o rec k (sub body [1,1,0,1,0,0,1,1]) (St.of 52 [(0,.sl 1 x0),(1,.int .i64 x1),(2,.int .i64 x2),(3,.ptr x3b x3o),(9,.int .i64 x9)] []) H (kAt PP o rec k body [1,1,0,1,0,0,1,1] [n0] (K0 PP Go.Proofs.Try.f57)):=by
 intros x0 x1 x2 x3b x3o x9 H
 unfold j1
 try simp only [hL0,-eq_self]
 kernel_rfl
theorem l0_eq (rec:Rec) (k:Nat):∀ n x0 x1 x2 x3b x3o x9 H,l0 rec k n x0 x1 x2 x3b x3o x9 H=iter (o.at (lbody (sub body [1,1,0,1,0]))) (ex PP o rec k (lbody (sub body [1,1,0,1,0]))) (kAt PP o rec k body [1,1,0,1,0] [] (K0 PP Go.Proofs.Try.f57)) n (St.of 52 [(0,.sl 1 x0),(1,.int .i64 x1),(2,.int .i64 x2),(3,.ptr x3b x3o),(9,.int .i64 x9)] []) H:=by
 intro n
 induction n with
 | zero=>intros; rfl
 | succ n ih=>
  intros x0 x1 x2 x3b x3o x9 H
  simp only [l0,j1_eq rec k n (l0 rec k n) (fun x0 x1 x2 x3b x3o x9 H=>ih x0 x1 x2 x3b x3o x9 H),ih,-eq_self]
  kernel_rfl
theorem f_eq (rec:Rec) (k:Nat):∀ a0 a1 a2 a3b a3o H,f rec k a0 a1 a2 a3b a3o H=ex PP o rec k body (St.of 52 [(0,.sl 1 a0),(1,.int .i64 a1),(2,.int .i64 a2),(3,.ptr a3b a3o)] []) H (K0 PP Go.Proofs.Try.f57):=by
 intros a0 a1 a2 a3b a3o H
 unfold f
 try simp only [l0_eq rec k,-eq_self]
 kernel_rfl
theorem call (k:Nat):∀ a0 a1 a2 a3b a3o H,callF PP orc (k + 1) spec_l2Search.id [.sl 1 a0,.int .i64 a1,.int .i64 a2,.ptr a3b a3o] H=f (callF PP orc k) k a0 a1 a2 a3b a3o H:=by
 intros a0 a1 a2 a3b a3o H
 rw [callF_at (fn:=Go.Proofs.Try.f57) (c:=body) Go.Proofs.Try.func57 (by kernel_rfl) (Nat.le_of_ble_eq_true (by kernel_rfl)),f_eq]
 kernel_rfl
end spec_l2Search




end Go.Proofs.Ytjikkamhljbipaa.Rp
