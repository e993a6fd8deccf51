/- Texts for the row of the law FnSolveSteps, part 4: the plain machine, the program's functions on it, what they come to. No conditions. -/
import Derived.Test.YtchliocobgkmbaaAb
import Derived.Test.YtchliocobgkmbaaOr
set_option linter.unusedVariables false
set_option linter.unusedSimpArgs false
set_option maxRecDepth 100000
namespace Go.Proofs.Ytchliocobgkmbaa.Rp
open Go Go.Proofs.Ytchliocobgkmbaa.Ab
namespace spec_l1OwnRule
noncomputable def body:Code:=(Go.Proofs.Try.f113).body.getD .skip
noncomputable def f (rec:Rec) (k:Nat) (a0_0:Int) (a0_1:Sl) (a0_2:Int) (H:Hp):An:=(H.read 1 a0_1).bind fun c2=>(H.appl 1 [] 0 a0_1.len c2).bind fun w1=>bif true && c2.all AV.cell then some (.agg [.int .i64 a0_0,.sl 1 w1.1,.int .i64 a0_2],w1.2) else none
theorem f_eq (rec:Rec) (k:Nat):∀ a0_0 a0_1 a0_2 H,f rec k a0_0 a0_1 a0_2 H=ex PP (orc spec_l1OwnRule.id) rec k body (St.of 11 [(0,.agg [.int .i64 a0_0,.sl 1 a0_1,.int .i64 a0_2])] []) H (K0 PP Go.Proofs.Try.f113):=by
 intros a0_0 a0_1 a0_2 H
 unfold f
 kernel_rfl
theorem call (k:Nat):∀ a0_0 a0_1 a0_2 H,callF PP orc (k + 1) spec_l1OwnRule.id [.agg [.int .i64 a0_0,.sl 1 a0_1,.int .i64 a0_2]] H=f (callF PP orc k) k a0_0 a0_1 a0_2 H:=by
 intros a0_0 a0_1 a0_2 H
 rw [callF_at (fn:=Go.Proofs.Try.f113) (c:=body) Go.Proofs.Try.func113 (by kernel_rfl) (Nat.le_of_ble_eq_true (by kernel_rfl)),f_eq]
 kernel_rfl
end spec_l1OwnRule
namespace spec_l1OwnRuleList
noncomputable def body:Code:=(Go.Proofs.Try.f94).body.getD .skip
abbrev o:=orc spec_l1OwnRuleList.id
noncomputable def j1 (rec:Rec) (k:Nat) (x3:Sl) (H:Hp):An:=some (.sl 3 x3,H)
noncomputable def l0 (rec:Rec) (k:Nat):Nat→Sl→Sl→Int→Hp→An
 | 0,_,_,_,_=>none
 | n + 1,x0,x3,x4,H=>bif decide (x4 < (x0.len:Int)) then bif decide (0 ≤ (x4:Int)) && decide ((x4:Int) < x0.len) then (ldI .i64 H x0.blk (x0.off + (x4:Int).toNat * 3)).bind fun n1=>(ldS 1 H x0.blk (x0.off + (x4:Int).toNat * 3 + 1)).bind fun s2=>(ldI .i64 H x0.blk (x0.off + (x4:Int).toNat * 3 + 1 + 1)).bind fun n3=>(rec spec_l1OwnRule.id [.agg [.int .i64 n1,.sl 1 s2,.int .i64 n3]] H).bind fun r4=>bif r4.1.isAgg 3 then ((r4.1.cel 0).toI .i64).bind fun n5=>((r4.1.cel 1).toS 1).bind fun s6=>((r4.1.cel 2).toI .i64).bind fun n7=>(r4.2.app 3 x3 1 [.int .i64 n5,.sl 1 s6,.int .i64 n7]).bind fun w8=>(l0 rec k n) x0 w8.1 (IntKind.i64.wrap (x4 + 1)) w8.2 else none else none else j1 rec k x3 H
noncomputable def f (rec:Rec) (k:Nat) (a0:Sl) (H:Hp):An:=l0 rec k k a0 (Sl.mk false H.length 0 0) 0 (H ++ [some (Blk.mk false [])])
theorem j1_eq (rec:Rec) (k:Nat):∀ x3 H,j1 rec k x3 H=ex PP o rec k (sub body [1,1,1]) (St.of 21 [(3,.sl 3 x3)] []) H (kAt PP o rec k body [1,1,1] [] (K0 PP Go.Proofs.Try.f94)):=by
 intros x3 H
 unfold j1
 kernel_rfl
theorem l0_eq (rec:Rec) (k:Nat):∀ n x0 x3 x4 H,l0 rec k n x0 x3 x4 H=iter (o.at (lbody (sub body [1,1,0,1,0]))) (ex PP o rec k (lbody (sub body [1,1,0,1,0]))) (kAt PP o rec k body [1,1,0,1,0] [] (K0 PP Go.Proofs.Try.f94)) n (St.of 21 [(0,.sl 3 x0),(3,.sl 3 x3),(4,.int .i64 x4)] []) H:=by
 intro n
 induction n with
 | zero=>intros; rfl
 | succ n ih=>
  intros x0 x3 x4 H
  simp only [l0,j1_eq rec k,ih,-eq_self]
  kernel_rfl
theorem f_eq (rec:Rec) (k:Nat):∀ a0 H,f rec k a0 H=ex PP o rec k body (St.of 21 [(0,.sl 3 a0)] []) H (K0 PP Go.Proofs.Try.f94):=by
 intros a0 H
 unfold f
 try simp only [l0_eq rec k,-eq_self]
 kernel_rfl
theorem call (k:Nat):∀ a0 H,callF PP orc (k + 1) spec_l1OwnRuleList.id [.sl 3 a0] H=f (callF PP orc k) k a0 H:=by
 intros a0 H
 rw [callF_at (fn:=Go.Proofs.Try.f94) (c:=body) Go.Proofs.Try.func94 (by kernel_rfl) (Nat.le_of_ble_eq_true (by kernel_rfl)),f_eq]
 kernel_rfl
end spec_l1OwnRuleList
namespace spec_l1OwnPuzzle
noncomputable def body:Code:=(Go.Proofs.Try.f56).body.getD .skip
noncomputable def f (rec:Rec) (k:Nat) (a0_0:Int) (a0_1:Sl) (a0_2:Sl) (H:Hp):An:=(H.read 1 a0_1).bind fun c2=>(H.appl 1 [] 0 a0_1.len c2).bind fun w1=>bif true && c2.all AV.cell then (rec spec_l1OwnRuleList.id [.sl 3 a0_2] w1.2).bind fun r3=>(r3.1.toS 3).bind fun s4=>some (.agg [.int .i64 a0_0,.sl 1 w1.1,.sl 3 s4],r3.2) else none
theorem f_eq (rec:Rec) (k:Nat):∀ a0_0 a0_1 a0_2 H,f rec k a0_0 a0_1 a0_2 H=ex PP (orc spec_l1OwnPuzzle.id) rec k body (St.of 15 [(0,.agg [.int .i64 a0_0,.sl 1 a0_1,.sl 3 a0_2])] []) H (K0 PP Go.Proofs.Try.f56):=by
 intros a0_0 a0_1 a0_2 H
 unfold f
 kernel_rfl
theorem call (k:Nat):∀ a0_0 a0_1 a0_2 H,callF PP orc (k + 1) spec_l1OwnPuzzle.id [.agg [.int .i64 a0_0,.sl 1 a0_1,.sl 3 a0_2]] H=f (callF PP orc k) k a0_0 a0_1 a0_2 H:=by
 intros a0_0 a0_1 a0_2 H
 rw [callF_at (fn:=Go.Proofs.Try.f56) (c:=body) Go.Proofs.Try.func56 (by kernel_rfl) (Nat.le_of_ble_eq_true (by kernel_rfl)),f_eq]
 kernel_rfl
end spec_l1OwnPuzzle
namespace spec_l10Without
noncomputable def body:Code:=(Go.Proofs.Try.f58).body.getD .skip
noncomputable def f (rec:Rec) (k:Nat) (a0_0:Int) (a0_1:Sl) (a0_2:Sl) (a1:Int) (H:Hp):An:=(H.read 1 a0_1).bind fun c2=>(H.appl 1 [] 0 a0_1.len c2).bind fun w1=>bif true && c2.all AV.cell then bif decide (0 ≤ (a1:Int)) && decide ((a1:Int) < w1.1.len) then (w1.2.sto w1.1.blk (w1.1.off + (a1:Int).toNat * 1) [.int .i64 0]).bind fun H3=>some (.agg [.int .i64 a0_0,.sl 1 w1.1,.sl 3 a0_2],H3) else none else none
theorem f_eq (rec:Rec) (k:Nat):∀ a0_0 a0_1 a0_2 a1 H,f rec k a0_0 a0_1 a0_2 a1 H=ex PP (orc spec_l10Without.id) rec k body (St.of 19 [(0,.agg [.int .i64 a0_0,.sl 1 a0_1,.sl 3 a0_2]),(1,.int .i64 a1)] []) H (K0 PP Go.Proofs.Try.f58):=by
 intros a0_0 a0_1 a0_2 a1 H
 unfold f
 kernel_rfl
theorem call (k:Nat):∀ a0_0 a0_1 a0_2 a1 H,callF PP orc (k + 1) spec_l10Without.id [.agg [.int .i64 a0_0,.sl 1 a0_1,.sl 3 a0_2],.int .i64 a1] H=f (callF PP orc k) k a0_0 a0_1 a0_2 a1 H:=by
 intros a0_0 a0_1 a0_2 a1 H
 rw [callF_at (fn:=Go.Proofs.Try.f58) (c:=body) Go.Proofs.Try.func58 (by kernel_rfl) (Nat.le_of_ble_eq_true (by kernel_rfl)),f_eq]
 kernel_rfl
end spec_l10Without
namespace spec_l20Rule
noncomputable def body:Code:=(Go.Proofs.Try.f88).body.getD .skip
abbrev o:=orc spec_l20Rule.id
abbrev TL0:=Nat→Nat→Sl→Int→Int→Sl→Int→Int→Int→Sl→Int→Hp→An
abbrev PhL0 (rec:Rec) (k n0:Nat) (L0:TL0):Prop:=∀ x0b x0o x1 x2 x3 x9 x10 x11 y8_0 y8_1 y8_2 H,L0 x0b x0o x1 x2 x3 x9 x10 x11 y8_0 y8_1 y8_2 H=iter (o.at (lbody (sub body [1,1,1,0,1,0]))) (ex PP o rec k (lbody (sub body [1,1,1,0,1,0]))) (kAt PP o rec k body [1,1,1,0,1,0] [] (K0 PP Go.Proofs.Try.f88)) n0 (St.of 232 [(0,.ptr x0b x0o),(1,.sl 1 x1),(2,.int .i64 x2),(3,.int .i64 x3),(8,.lp 8 0),(9,.sl 1 x9),(10,.int .i64 x10),(11,.int .i64 x11)] [(8,[.int .i64 y8_0,.sl 1 y8_1,.int .i64 y8_2])]) H
noncomputable def j8 (rec:Rec) (k:Nat) (L0:TL0) (L6:Nat→Nat→Sl→Int→Int→Sl→Int→Int→Int→Bool→Int→Int→Sl→Int→Hp→An) (x0b:Nat) (x0o:Nat) (x1:Sl) (x2:Int) (x3:Int) (x9:Sl) (x10:Int) (x11:Int) (x12:Int) (x13:Bool) (x14:Int) (y8_0:Int) (y8_1:Sl) (y8_2:Int) (H:Hp):An:=L6 x0b x0o x1 x2 x3 x9 x10 x11 x12 x13 (IntKind.i64.wrap (x14 + 1)) y8_0 y8_1 y8_2 H
noncomputable def j11 (rec:Rec) (k:Nat) (L0:TL0) (x0b:Nat) (x0o:Nat) (x1:Sl) (x2:Int) (x3:Int) (x9:Sl) (x10:Int) (x11:Int) (y8_0:Int) (y8_1:Sl) (y8_2:Int) (H:Hp):An:=L0 x0b x0o x1 x2 x3 x9 x10 (IntKind.i64.wrap (x11 + 1)) y8_0 y8_1 y8_2 H
noncomputable def j9 (rec:Rec) (k:Nat) (L0:TL0) (x0b:Nat) (x0o:Nat) (x1:Sl) (x2:Int) (x3:Int) (x9:Sl) (x10:Int) (x11:Int) (x12:Int) (x13:Bool) (y8_0:Int) (y8_1:Sl) (y8_2:Int) (H:Hp):An:=bif x13 then (H.app 1 x9 1 [.int .i64 x12]).bind fun w31=>j11 rec k L0 x0b x0o x1 x2 x3 w31.1 x10 x11 y8_0 y8_1 y8_2 w31.2 else j11 rec k L0 x0b x0o x1 x2 x3 x9 x10 x11 y8_0 y8_1 y8_2 H
noncomputable def l6 (rec:Rec) (k:Nat) (L0:TL0):Nat→Nat→Nat→Sl→Int→Int→Sl→Int→Int→Int→Bool→Int→Int→Sl→Int→Hp→An
 | 0,_,_,_,_,_,_,_,_,_,_,_,_,_,_,_=>none
 | n + 1,x0b,x0o,x1,x2,x3,x9,x10,x11,x12,x13,x14,y8_0,y8_1,y8_2,H=>bif decide (x14 < (x9.len:Int)) then bif x13 then bif decide (0 ≤ (x14:Int)) && decide ((x14:Int) < x9.len) then (ldI .i64 H x9.blk (x9.off + (x14:Int).toNat * 1)).bind fun n16=>j8 rec k L0 (l6 rec k L0 n) x0b x0o x1 x2 x3 x9 x10 x11 x12 (n16 != x12) x14 y8_0 y8_1 y8_2 H else none else j8 rec k L0 (l6 rec k L0 n) x0b x0o x1 x2 x3 x9 x10 x11 x12 false x14 y8_0 y8_1 y8_2 H else j9 rec k L0 x0b x0o x1 x2 x3 x9 x10 x11 x12 x13 y8_0 y8_1 y8_2 H
noncomputable def j4 (rec:Rec) (k:Nat) (L0:TL0) (x0b:Nat) (x0o:Nat) (x1:Sl) (x2:Int) (x3:Int) (x9:Sl) (x10:Int) (x11:Int) (x12:Int) (x13:Bool) (y8_0:Int) (y8_1:Sl) (y8_2:Int) (H:Hp):An:=l6 rec k L0 k x0b x0o x1 x2 x3 x9 x10 x11 x12 x13 0 y8_0 y8_1 y8_2 H
noncomputable def j2 (rec:Rec) (k:Nat) (L0:TL0) (x0b:Nat) (x0o:Nat) (x1:Sl) (x2:Int) (x3:Int) (x9:Sl) (x10:Int) (x11:Int) (y8_0:Int) (y8_1:Sl) (y8_2:Int) (H:Hp):An:=(rec spec_l20Rd_pick.id [.ptr x0b x0o,.int .i64 (x9.len:Int)] H).bind fun r5=>(r5.1.toI .i64).bind fun n6=>bif decide (0 ≤ (n6:Int)) && decide ((n6:Int) < x9.len) then (ldI .i64 r5.2 x9.blk (x9.off + (n6:Int).toNat * 1)).bind fun n7=>(rec spec_l20Rd_pick.id [.ptr x0b x0o,.int .i64 4] r5.2).bind fun r8=>(r8.1.toI .i64).bind fun n9=>bif stableB r5.2 r8.2 x9.blk (x9.off + (n6:Int).toNat * 1) 1 && true then bif decide (0 ≤ (n9:Int)) && decide ((n9:Int) < ((4:Nat):Int)) then (([.int .i64 1,.int .i64 (-1),.int .i64 x2,.int .i64 (IntKind.i64.wrap (0 - x2))]:List AV)[(n9:Int).toNat * 1]?).bind fun v10=>bif v10.cell then (v10.toI .i64).bind fun n11=>bif decide ((IntKind.i64.wrap (n7 + n11)) ≥ 0) then j4 rec k L0 x0b x0o x1 x2 x3 x9 x10 x11 (IntKind.i64.wrap (n7 + n11)) (decide ((IntKind.i64.wrap (n7 + n11)) < (IntKind.i64.wrap (x2 * x2)))) y8_0 y8_1 y8_2 r8.2 else j4 rec k L0 x0b x0o x1 x2 x3 x9 x10 x11 (IntKind.i64.wrap (n7 + n11)) false y8_0 y8_1 y8_2 r8.2 else none else none else none else none
noncomputable def j12 (rec:Rec) (k:Nat) (y8_0:Int) (y8_1:Sl) (y8_2:Int) (y18_0:Int) (y18_1:Sl) (y18_2:Int) (H:Hp):An:=some (.agg [.int .i64 y18_0,.sl 1 y18_1,.int .i64 y18_2],H)
noncomputable def j10 (rec:Rec) (k:Nat) (x0b:Nat) (x0o:Nat) (x2:Int) (x3:Int) (y8_0:Int) (y8_1:Sl) (y8_2:Int) (y18_0:Int) (y18_1:Sl) (y18_2:Int) (H:Hp):An:=(rec spec_l20Rd_odd.id [.ptr x0b x0o,.int .i64 x3] H).bind fun r32=>r32.1.toB.bind fun b33=>bif b33 then (rec spec_l20Rd_pick.id [.ptr x0b x0o,.int .i64 4] r32.2).bind fun r34=>(r34.1.toI .i64).bind fun n35=>bif n35 == 0 then (rec spec_l20Rd_pick.id [.ptr x0b x0o,.int .i64 2] (r34.2 ++ [some (Blk.mk false [.int .i64 0,.int .i64 6])])).bind fun r36=>(r36.1.toI .i64).bind fun n37=>bif decide (0 ≤ (n37:Int)) && decide ((n37:Int) < (Sl.mk false r34.2.length 0 2).len) then (ldI .i64 r36.2 ((Sl.mk false r34.2.length 0 2).blk) ((Sl.mk false r34.2.length 0 2).off + (n37:Int).toNat * 1)).bind fun n38=>j12 rec k y8_0 y8_1 y8_2 n38 y18_1 y18_2 r36.2 else none else bif n35 == 1 then bif decide (0 ≤ (0:Int)) && decide ((0:Int) < y18_1.len) then (ldI .i64 r34.2 y18_1.blk (y18_1.off + (0:Int).toNat * 1)).bind fun n39=>(r34.2.read 1 y18_1).bind fun c41=>(r34.2.appl 1 [] 0 y18_1.len c41).bind fun w40=>bif true && c41.all AV.cell then bif stableB r34.2 w40.2 y18_1.blk (y18_1.off + (0:Int).toNat * 1) 1 && true then (w40.2.app 1 w40.1 1 [.int .i64 n39]).bind fun w42=>j12 rec k y8_0 y8_1 y8_2 y18_0 w42.1 y18_2 w42.2 else none else none else none else bif n35 == 2 then j12 rec k y8_0 y8_1 y8_2 y18_0 (Sl.mk false r34.2.length 0 2) y18_2 (r34.2 ++ [some (Blk.mk false [.int .i64 (IntKind.i64.wrap (x2 * x2)),.int .i64 0])]) else (rec spec_l20Rd_pick.id [.ptr x0b x0o,.int .i64 2] (r34.2 ++ [some (Blk.mk false [.int .i64 (-1),.int .i64 257])])).bind fun r43=>(r43.1.toI .i64).bind fun n44=>bif decide (0 ≤ (n44:Int)) && decide ((n44:Int) < (Sl.mk false r34.2.length 0 2).len) then (ldI .i64 r43.2 ((Sl.mk false r34.2.length 0 2).blk) ((Sl.mk false r34.2.length 0 2).off + (n44:Int).toNat * 1)).bind fun n45=>j12 rec k y8_0 y8_1 y8_2 y18_0 y18_1 n45 r43.2 else none else j12 rec k y8_0 y8_1 y8_2 y18_0 y18_1 y18_2 r32.2
noncomputable def j7 (rec:Rec) (k:Nat) (x0b:Nat) (x0o:Nat) (x1:Sl) (x2:Int) (x3:Int) (x9:Sl) (x15:Int) (x16:Int) (y8_0:Int) (y8_1:Sl) (y8_2:Int) (H:Hp):An:=(rec spec_l20Rd_pick.id [.ptr x0b x0o,.int .i64 5] H).bind fun r17=>(r17.1.toI .i64).bind fun n18=>bif n18 == 0 then j10 rec k x0b x0o x2 x3 y8_0 y8_1 y8_2 3 x9 x16 r17.2 else bif n18 == 1 then bif decide ((x9.len:Int) > 1) then bif decide (0 ≤ (0:Int)) && decide ((0:Int) < x9.len) then (ldI .i64 r17.2 x9.blk (x9.off + (0:Int).toNat * 1)).bind fun n19=>bif decide (0 ≤ (1:Int)) && decide ((1:Int) < x9.len) then (ldI .i64 r17.2 x9.blk (x9.off + (1:Int).toNat * 1)).bind fun n20=>bif decide (0 ≤ (0:Int)) && decide ((0:Int) < x9.len) then (ldI .i64 (r17.2 ++ [some (Blk.mk false [.int .i64 n19,.int .i64 n20])]) x9.blk (x9.off + (0:Int).toNat * 1)).bind fun n21=>bif decide (0 ≤ (n21:Int)) && decide ((n21:Int) < x1.len) then (ldI .i64 (r17.2 ++ [some (Blk.mk false [.int .i64 n19,.int .i64 n20])]) x1.blk (x1.off + (n21:Int).toNat * 1)).bind fun n22=>bif decide (0 ≤ (1:Int)) && decide ((1:Int) < x9.len) then (ldI .i64 (r17.2 ++ [some (Blk.mk false [.int .i64 n19,.int .i64 n20])]) x9.blk (x9.off + (1:Int).toNat * 1)).bind fun n23=>bif decide (0 ≤ (n23:Int)) && decide ((n23:Int) < x1.len) then (ldI .i64 (r17.2 ++ [some (Blk.mk false [.int .i64 n19,.int .i64 n20])]) x1.blk (x1.off + (n23:Int).toNat * 1)).bind fun n24=>bif decide (n22 > n24) then bif decide (0 ≤ (1:Int)) && decide ((1:Int) < x9.len) then (ldI .i64 (r17.2 ++ [some (Blk.mk false [.int .i64 n19,.int .i64 n20])]) x9.blk (x9.off + (1:Int).toNat * 1)).bind fun n25=>bif decide (0 ≤ (0:Int)) && decide ((0:Int) < x9.len) then (ldI .i64 (r17.2 ++ [some (Blk.mk false [.int .i64 n19,.int .i64 n20])]) x9.blk (x9.off + (0:Int).toNat * 1)).bind fun n26=>j10 rec k x0b x0o x2 x3 y8_0 y8_1 y8_2 4 (Sl.mk false ((r17.2 ++ [some (Blk.mk false [.int .i64 n19,.int .i64 n20])]).length) 0 2) 0 (r17.2 ++ [some (Blk.mk false [.int .i64 n19,.int .i64 n20])] ++ [some (Blk.mk false [.int .i64 n25,.int .i64 n26])]) else none else none else j10 rec k x0b x0o x2 x3 y8_0 y8_1 y8_2 4 (Sl.mk false r17.2.length 0 2) 0 (r17.2 ++ [some (Blk.mk false [.int .i64 n19,.int .i64 n20])]) else none else none else none else none else none else none else j10 rec k x0b x0o x2 x3 y8_0 y8_1 y8_2 2 x9 (mx 1 x15) r17.2 else bif n18 == 2 then bif decide ((x9.len:Int) > 1) then bif decide (0 ≤ (0:Int)) && decide ((0:Int) < x9.len) then (ldI .i64 r17.2 x9.blk (x9.off + (0:Int).toNat * 1)).bind fun n27=>bif decide (0 ≤ (n27:Int)) && decide ((n27:Int) < x1.len) then (ldI .i64 r17.2 x1.blk (x1.off + (n27:Int).toNat * 1)).bind fun n28=>bif decide (0 ≤ (1:Int)) && decide ((1:Int) < x9.len) then (ldI .i64 r17.2 x9.blk (x9.off + (1:Int).toNat * 1)).bind fun n29=>bif decide (0 ≤ (n29:Int)) && decide ((n29:Int) < x1.len) then (ldI .i64 r17.2 x1.blk (x1.off + (n29:Int).toNat * 1)).bind fun n30=>if (0 ≤ (0:Int)∧(0:Int) ≤ 2∧(2:Int) ≤ x9.len∧(2:Int)=2)∧0 < 1∧true=true then j10 rec k x0b x0o x2 x3 y8_0 y8_1 y8_2 5 (Sl.mk x9.nil x9.blk (x9.off + (0:Int).toNat * 1) ((2:Int) - 0).toNat) (mn (IntKind.i64.wrap (x2 - 1)) (mx (IntKind.i64.wrap (n28 - n30)) (IntKind.i64.wrap (0 - (IntKind.i64.wrap (n28 - n30)))))) r17.2 else none else none else none else none else none else j10 rec k x0b x0o x2 x3 y8_0 y8_1 y8_2 2 x9 (mx 1 x15) r17.2 else bif n18 == 3 then bif decide ((x9.len:Int) > 1) then if (0 ≤ (0:Int)∧(0:Int) ≤ 2∧(2:Int) ≤ x9.len∧(2:Int)=2)∧0 < 1∧true=true then j10 rec k x0b x0o x2 x3 y8_0 y8_1 y8_2 1 (Sl.mk x9.nil x9.blk (x9.off + (0:Int).toNat * 1) ((2:Int) - 0).toNat) 0 r17.2 else none else j10 rec k x0b x0o x2 x3 y8_0 y8_1 y8_2 2 x9 (mx 1 x15) r17.2 else j10 rec k x0b x0o x2 x3 y8_0 y8_1 y8_2 2 x9 (mx 1 x15) r17.2
noncomputable def l5 (rec:Rec) (k:Nat):Nat→Nat→Nat→Sl→Int→Int→Sl→Int→Int→Int→Int→Sl→Int→Hp→An
 | 0,_,_,_,_,_,_,_,_,_,_,_,_,_=>none
 | n + 1,x0b,x0o,x1,x2,x3,x9,x15,x16,x17,y8_0,y8_1,y8_2,H=>bif decide (x17 < (x9.len:Int)) then bif decide (0 ≤ (x17:Int)) && decide ((x17:Int) < x9.len) then (ldI .i64 H x9.blk (x9.off + (x17:Int).toNat * 1)).bind fun n12=>bif decide (0 ≤ (n12:Int)) && decide ((n12:Int) < x1.len) then (ldI .i64 H x1.blk (x1.off + (n12:Int).toNat * 1)).bind fun n13=>bif decide (0 ≤ (x17:Int)) && decide ((x17:Int) < x9.len) then (ldI .i64 H x9.blk (x9.off + (x17:Int).toNat * 1)).bind fun n14=>bif decide (0 ≤ (n14:Int)) && decide ((n14:Int) < x1.len) then (ldI .i64 H x1.blk (x1.off + (n14:Int).toNat * 1)).bind fun n15=>(l5 rec k n) x0b x0o x1 x2 x3 x9 (IntKind.i64.wrap (x15 + n13)) (IntKind.i64.wrap (x16 * (mx 1 n15))) (IntKind.i64.wrap (x17 + 1)) y8_0 y8_1 y8_2 H else none else none else none else none else j7 rec k x0b x0o x1 x2 x3 x9 x15 x16 y8_0 y8_1 y8_2 H
noncomputable def j3 (rec:Rec) (k:Nat) (x0b:Nat) (x0o:Nat) (x1:Sl) (x2:Int) (x3:Int) (x9:Sl) (y8_0:Int) (y8_1:Sl) (y8_2:Int) (H:Hp):An:=l5 rec k k x0b x0o x1 x2 x3 x9 0 1 0 y8_0 y8_1 y8_2 H
noncomputable def j1 (rec:Rec) (k:Nat) (L0:TL0) (x0b:Nat) (x0o:Nat) (x1:Sl) (x2:Int) (x3:Int) (x9:Sl) (x10:Int) (x11:Int) (x38:Bool) (y8_0:Int) (y8_1:Sl) (y8_2:Int) (H:Hp):An:=bif x38 then j2 rec k L0 x0b x0o x1 x2 x3 x9 x10 x11 y8_0 y8_1 y8_2 H else j3 rec k x0b x0o x1 x2 x3 x9 y8_0 y8_1 y8_2 H
noncomputable def l0 (rec:Rec) (k:Nat):Nat→Nat→Nat→Sl→Int→Int→Sl→Int→Int→Int→Sl→Int→Hp→An
 | 0,_,_,_,_,_,_,_,_,_,_,_,_=>none
 | n + 1,x0b,x0o,x1,x2,x3,x9,x10,x11,y8_0,y8_1,y8_2,H=>bif decide (x11 < (IntKind.i64.wrap (x10 * 4))) then j1 rec k (l0 rec k n) x0b x0o x1 x2 x3 x9 x10 x11 (decide ((x9.len:Int) < x10)) y8_0 y8_1 y8_2 H else j1 rec k (l0 rec k n) x0b x0o x1 x2 x3 x9 x10 x11 false y8_0 y8_1 y8_2 H
noncomputable def f (rec:Rec) (k:Nat) (a0b:Nat) (a0o:Nat) (a1:Sl) (a2:Int) (a3:Int) (H:Hp):An:=(rec spec_l20Rd_pick.id [.ptr a0b a0o,.int .i64 (IntKind.i64.wrap (a2 * a2))] H).bind fun r1=>(r1.1.toI .i64).bind fun n2=>(rec spec_l20Rd_pick.id [.ptr a0b a0o,.int .i64 3] (r1.2 ++ [some (Blk.mk false [.int .i64 n2])])).bind fun r3=>(r3.1.toI .i64).bind fun n4=>l0 rec k k a0b a0o a1 a2 a3 (Sl.mk false r1.2.length 0 1) (IntKind.i64.wrap (2 + n4)) 0 0 Sl.none 0 r3.2
theorem j8_eq (rec:Rec) (k:Nat) (n0:Nat) (L0:TL0) (hL0:PhL0 rec k n0 L0) (n6:Nat) (L6:Nat→Nat→Sl→Int→Int→Sl→Int→Int→Int→Bool→Int→Int→Sl→Int→Hp→An) (hL6:∀ x0b x0o x1 x2 x3 x9 x10 x11 x12 x13 x14 y8_0 y8_1 y8_2 H,L6 x0b x0o x1 x2 x3 x9 x10 x11 x12 x13 x14 y8_0 y8_1 y8_2 H=iter (o.at (lbody (sub body [1,1,1,0,1,0,0,1,0,0,1,1,0,1,0]))) (ex PP o rec k (lbody (sub body [1,1,1,0,1,0,0,1,0,0,1,1,0,1,0]))) (kAt PP o rec k body [1,1,1,0,1,0,0,1,0,0,1,1,0,1,0] [n0] (K0 PP Go.Proofs.Try.f88)) n6 (St.of 232 [(0,.ptr x0b x0o),(1,.sl 1 x1),(2,.int .i64 x2),(3,.int .i64 x3),(8,.lp 8 0),(9,.sl 1 x9),(10,.int .i64 x10),(11,.int .i64 x11),(12,.int .i64 x12),(13,.bool x13),(14,.int .i64 x14)] [(8,[.int .i64 y8_0,.sl 1 y8_1,.int .i64 y8_2])]) H):∀ x0b x0o x1 x2 x3 x9 x10 x11 x12 x13 x14 y8_0 y8_1 y8_2 H,j8 rec k L0 L6 x0b x0o x1 x2 x3 x9 x10 x11 x12 x13 x14 y8_0 y8_1 y8_2 H=ex PP o rec k (sub body [1,1,1,0,1,0,0,1,0,0,1,1,0,1,0,0,1,1]) (St.of 232 [(0,.ptr x0b x0o),(1,.sl 1 x1),(2,.int .i64 x2),(3,.int .i64 x3),(8,.lp 8 0),(9,.sl 1 x9),(10,.int .i64 x10),(11,.int .i64 x11),(12,.int .i64 x12),(13,.bool x13),(14,.int .i64 x14)] [(8,[.int .i64 y8_0,.sl 1 y8_1,.int .i64 y8_2])]) H (kAt PP o rec k body [1,1,1,0,1,0,0,1,0,0,1,1,0,1,0,0,1,1] [n0,n6] (K0 PP Go.Proofs.Try.f88)):=by
 intros x0b x0o x1 x2 x3 x9 x10 x11 x12 x13 x14 y8_0 y8_1 y8_2 H
 unfold j8
 try simp only [hL0,hL6,-eq_self]
 kernel_rfl
theorem j11_eq (rec:Rec) (k:Nat) (n0:Nat) (L0:TL0) (hL0:PhL0 rec k n0 L0):∀ x0b x0o x1 x2 x3 x9 x10 x11 y8_0 y8_1 y8_2 H,j11 rec k L0 x0b x0o x1 x2 x3 x9 x10 x11 y8_0 y8_1 y8_2 H=ex PP o rec k (sub body [1,1,1,0,1,0,0,1,1]) (St.of 232 [(0,.ptr x0b x0o),(1,.sl 1 x1),(2,.int .i64 x2),(3,.int .i64 x3),(8,.lp 8 0),(9,.sl 1 x9),(10,.int .i64 x10),(11,.int .i64 x11)] [(8,[.int .i64 y8_0,.sl 1 y8_1,.int .i64 y8_2])]) H (kAt PP o rec k body [1,1,1,0,1,0,0,1,1] [n0] (K0 PP Go.Proofs.Try.f88)):=by
 intros x0b x0o x1 x2 x3 x9 x10 x11 y8_0 y8_1 y8_2 H
 unfold j11
 try simp only [hL0,-eq_self]
 kernel_rfl
theorem j9_eq (rec:Rec) (k:Nat) (n0:Nat) (L0:TL0) (hL0:PhL0 rec k n0 L0):∀ x0b x0o x1 x2 x3 x9 x10 x11 x12 x13 y8_0 y8_1 y8_2 H,j9 rec k L0 x0b x0o x1 x2 x3 x9 x10 x11 x12 x13 y8_0 y8_1 y8_2 H=ex PP o rec k (sub body [1,1,1,0,1,0,0,1,0,0,1,1,1]) (St.of 232 [(0,.ptr x0b x0o),(1,.sl 1 x1),(2,.int .i64 x2),(3,.int .i64 x3),(8,.lp 8 0),(9,.sl 1 x9),(10,.int .i64 x10),(11,.int .i64 x11),(12,.int .i64 x12),(13,.bool x13)] [(8,[.int .i64 y8_0,.sl 1 y8_1,.int .i64 y8_2])]) H (kAt PP o rec k body [1,1,1,0,1,0,0,1,0,0,1,1,1] [n0] (K0 PP Go.Proofs.Try.f88)):=by
 intros x0b x0o x1 x2 x3 x9 x10 x11 x12 x13 y8_0 y8_1 y8_2 H
 unfold j9
 try simp only [hL0,j11_eq rec k n0 L0 hL0,-eq_self]
 kernel_rfl
theorem l6_eq (rec:Rec) (k:Nat) (n0:Nat) (L0:TL0) (hL0:PhL0 rec k n0 L0):∀ n x0b x0o x1 x2 x3 x9 x10 x11 x12 x13 x14 y8_0 y8_1 y8_2 H,l6 rec k L0 n x0b x0o x1 x2 x3 x9 x10 x11 x12 x13 x14 y8_0 y8_1 y8_2 H=iter (o.at (lbody (sub body [1,1,1,0,1,0,0,1,0,0,1,1,0,1,0]))) (ex PP o rec k (lbody (sub body [1,1,1,0,1,0,0,1,0,0,1,1,0,1,0]))) (kAt PP o rec k body [1,1,1,0,1,0,0,1,0,0,1,1,0,1,0] [n0] (K0 PP Go.Proofs.Try.f88)) n (St.of 232 [(0,.ptr x0b x0o),(1,.sl 1 x1),(2,.int .i64 x2),(3,.int .i64 x3),(8,.lp 8 0),(9,.sl 1 x9),(10,.int .i64 x10),(11,.int .i64 x11),(12,.int .i64 x12),(13,.bool x13),(14,.int .i64 x14)] [(8,[.int .i64 y8_0,.sl 1 y8_1,.int .i64 y8_2])]) H:=by
 intro n
 induction n with
 | zero=>intros; rfl
 | succ n ih=>
  intros x0b x0o x1 x2 x3 x9 x10 x11 x12 x13 x14 y8_0 y8_1 y8_2 H
  simp only [l6,hL0,j8_eq rec k n0 L0 hL0 n (l6 rec k L0 n) (fun x0b x0o x1 x2 x3 x9 x10 x11 x12 x13 x14 y8_0 y8_1 y8_2 H=>ih x0b x0o x1 x2 x3 x9 x10 x11 x12 x13 x14 y8_0 y8_1 y8_2 H),j9_eq rec k n0 L0 hL0,ih,-eq_self]
  kernel_rfl
theorem j4_eq (rec:Rec) (k:Nat) (n0:Nat) (L0:TL0) (hL0:PhL0 rec k n0 L0):∀ x0b x0o x1 x2 x3 x9 x10 x11 x12 x13 y8_0 y8_1 y8_2 H,j4 rec k L0 x0b x0o x1 x2 x3 x9 x10 x11 x12 x13 y8_0 y8_1 y8_2 H=ex PP o rec k (sub body [1,1,1,0,1,0,0,1,0,0,1,1]) (St.of 232 [(0,.ptr x0b x0o),(1,.sl 1 x1),(2,.int .i64 x2),(3,.int .i64 x3),(8,.lp 8 0),(9,.sl 1 x9),(10,.int .i64 x10),(11,.int .i64 x11),(12,.int .i64 x12),(13,.bool x13)] [(8,[.int .i64 y8_0,.sl 1 y8_1,.int .i64 y8_2])]) H (kAt PP o rec k body [1,1,1,0,1,0,0,1,0,0,1,1] [n0] (K0 PP Go.Proofs.Try.f88)):=by
 intros x0b x0o x1 x2 x3 x9 x10 x11 x12 x13 y8_0 y8_1 y8_2 H
 unfold j4
 try simp only [hL0,l6_eq rec k n0 L0 hL0,-eq_self]
 kernel_rfl
theorem j2_eq (rec:Rec) (k:Nat) (n0:Nat) (L0:TL0) (hL0:PhL0 rec k n0 L0):∀ x0b x0o x1 x2 x3 x9 x10 x11 y8_0 y8_1 y8_2 H,j2 rec k L0 x0b x0o x1 x2 x3 x9 x10 x11 y8_0 y8_1 y8_2 H=ex PP o rec k (sub body [1,1,1,0,1,0,0,1]) (St.of 232 [(0,.ptr x0b x0o),(1,.sl 1 x1),(2,.int .i64 x2),(3,.int .i64 x3),(8,.lp 8 0),(9,.sl 1 x9),(10,.int .i64 x10),(11,.int .i64 x11)] [(8,[.int .i64 y8_0,.sl 1 y8_1,.int .i64 y8_2])]) H (kAt PP o rec k body [1,1,1,0,1,0,0,1] [n0] (K0 PP Go.Proofs.Try.f88)):=by
 intros x0b x0o x1 x2 x3 x9 x10 x11 y8_0 y8_1 y8_2 H
 unfold j2
 try simp only [hL0,j4_eq rec k n0 L0 hL0,-eq_self]
 kernel_rfl
theorem j12_eq (rec:Rec) (k:Nat):∀ y8_0 y8_1 y8_2 y18_0 y18_1 y18_2 H,j12 rec k y8_0 y8_1 y8_2 y18_0 y18_1 y18_2 H=ex PP o rec k (sub body [1,1,1,1,1,1,1,1,1,1]) (St.of 232 [(8,.lp 8 0),(18,.lp 18 0)] [(8,[.int .i64 y8_0,.sl 1 y8_1,.int .i64 y8_2]),(18,[.int .i64 y18_0,.sl 1 y18_1,.int .i64 y18_2])]) H (kAt PP o rec k body [1,1,1,1,1,1,1,1,1,1] [] (K0 PP Go.Proofs.Try.f88)):=by
 intros y8_0 y8_1 y8_2 y18_0 y18_1 y18_2 H
 unfold j12
 kernel_rfl
theorem j10_eq (rec:Rec) (k:Nat):∀ x0b x0o x2 x3 y8_0 y8_1 y8_2 y18_0 y18_1 y18_2 H,j10 rec k x0b x0o x2 x3 y8_0 y8_1 y8_2 y18_0 y18_1 y18_2 H=ex PP o rec k (sub body [1,1,1,1,1,1,1,1,1]) (St.of 232 [(0,.ptr x0b x0o),(2,.int .i64 x2),(3,.int .i64 x3),(8,.lp 8 0),(18,.lp 18 0)] [(8,[.int .i64 y8_0,.sl 1 y8_1,.int .i64 y8_2]),(18,[.int .i64 y18_0,.sl 1 y18_1,.int .i64 y18_2])]) H (kAt PP o rec k body [1,1,1,1,1,1,1,1,1] [] (K0 PP Go.Proofs.Try.f88)):=by
 intros x0b x0o x2 x3 y8_0 y8_1 y8_2 y18_0 y18_1 y18_2 H
 unfold j10
 try simp only [j12_eq rec k,-eq_self]
 kernel_rfl
theorem j7_eq (rec:Rec) (k:Nat):∀ x0b x0o x1 x2 x3 x9 x15 x16 y8_0 y8_1 y8_2 H,j7 rec k x0b x0o x1 x2 x3 x9 x15 x16 y8_0 y8_1 y8_2 H=ex PP o rec k (sub body [1,1,1,1,1,1,1]) (St.of 232 [(0,.ptr x0b x0o),(1,.sl 1 x1),(2,.int .i64 x2),(3,.int .i64 x3),(8,.lp 8 0),(9,.sl 1 x9),(15,.int .i64 x15),(16,.int .i64 x16)] [(8,[.int .i64 y8_0,.sl 1 y8_1,.int .i64 y8_2])]) H (kAt PP o rec k body [1,1,1,1,1,1,1] [] (K0 PP Go.Proofs.Try.f88)):=by
 intros x0b x0o x1 x2 x3 x9 x15 x16 y8_0 y8_1 y8_2 H
 unfold j7
 try simp only [j10_eq rec k,-eq_self]
 kernel_rfl
theorem l5_eq (rec:Rec) (k:Nat):∀ n x0b x0o x1 x2 x3 x9 x15 x16 x17 y8_0 y8_1 y8_2 H,l5 rec k n x0b x0o x1 x2 x3 x9 x15 x16 x17 y8_0 y8_1 y8_2 H=iter (o.at (lbody (sub body [1,1,1,1,1,1,0,1,0]))) (ex PP o rec k (lbody (sub body [1,1,1,1,1,1,0,1,0]))) (kAt PP o rec k body [1,1,1,1,1,1,0,1,0] [] (K0 PP Go.Proofs.Try.f88)) n (St.of 232 [(0,.ptr x0b x0o),(1,.sl 1 x1),(2,.int .i64 x2),(3,.int .i64 x3),(8,.lp 8 0),(9,.sl 1 x9),(15,.int .i64 x15),(16,.int .i64 x16),(17,.int .i64 x17)] [(8,[.int .i64 y8_0,.sl 1 y8_1,.int .i64 y8_2])]) H:=by
 intro n
 induction n with
 | zero=>intros; rfl
 | succ n ih=>
  intros x0b x0o x1 x2 x3 x9 x15 x16 x17 y8_0 y8_1 y8_2 H
  simp only [l5,j7_eq rec k,ih,-eq_self]
  kernel_rfl
theorem j3_eq (rec:Rec) (k:Nat):∀ x0b x0o x1 x2 x3 x9 y8_0 y8_1 y8_2 H,j3 rec k x0b x0o x1 x2 x3 x9 y8_0 y8_1 y8_2 H=ex PP o rec k (sub body [1,1,1,1]) (St.of 232 [(0,.ptr x0b x0o),(1,.sl 1 x1),(2,.int .i64 x2),(3,.int .i64 x3),(8,.lp 8 0),(9,.sl 1 x9)] [(8,[.int .i64 y8_0,.sl 1 y8_1,.int .i64 y8_2])]) H (kAt PP o rec k body [1,1,1,1] [] (K0 PP Go.Proofs.Try.f88)):=by
 intros x0b x0o x1 x2 x3 x9 y8_0 y8_1 y8_2 H
 unfold j3
 try simp only [l5_eq rec k,-eq_self]
 kernel_rfl
theorem j1_eq (rec:Rec) (k:Nat) (n0:Nat) (L0:TL0) (hL0:PhL0 rec k n0 L0):∀ x0b x0o x1 x2 x3 x9 x10 x11 x38 y8_0 y8_1 y8_2 H,j1 rec k L0 x0b x0o x1 x2 x3 x9 x10 x11 x38 y8_0 y8_1 y8_2 H=ex PP o rec k (sub body [1,1,1,0,1,0,0,0,1]) (St.of 232 [(0,.ptr x0b x0o),(1,.sl 1 x1),(2,.int .i64 x2),(3,.int .i64 x3),(8,.lp 8 0),(9,.sl 1 x9),(10,.int .i64 x10),(11,.int .i64 x11),(38,.bool x38)] [(8,[.int .i64 y8_0,.sl 1 y8_1,.int .i64 y8_2])]) H (kAt PP o rec k body [1,1,1,0,1,0,0,0,1] [n0] (K0 PP Go.Proofs.Try.f88)):=by
 intros x0b x0o x1 x2 x3 x9 x10 x11 x38 y8_0 y8_1 y8_2 H
 unfold j1
 try simp only [hL0,j2_eq rec k n0 L0 hL0,j3_eq rec k,-eq_self]
 kernel_rfl
theorem l0_eq (rec:Rec) (k:Nat):∀ n x0b x0o x1 x2 x3 x9 x10 x11 y8_0 y8_1 y8_2 H,l0 rec k n x0b x0o x1 x2 x3 x9 x10 x11 y8_0 y8_1 y8_2 H=iter (o.at (lbody (sub body [1,1,1,0,1,0]))) (ex PP o rec k (lbody (sub body [1,1,1,0,1,0]))) (kAt PP o rec k body [1,1,1,0,1,0] [] (K0 PP Go.Proofs.Try.f88)) n (St.of 232 [(0,.ptr x0b x0o),(1,.sl 1 x1),(2,.int .i64 x2),(3,.int .i64 x3),(8,.lp 8 0),(9,.sl 1 x9),(10,.int .i64 x10),(11,.int .i64 x11)] [(8,[.int .i64 y8_0,.sl 1 y8_1,.int .i64 y8_2])]) H:=by
 intro n
 induction n with
 | zero=>intros; rfl
 | succ n ih=>
  intros x0b x0o x1 x2 x3 x9 x10 x11 y8_0 y8_1 y8_2 H
  simp only [l0,j1_eq rec k n (l0 rec k n) (fun x0b x0o x1 x2 x3 x9 x10 x11 y8_0 y8_1 y8_2 H=>ih x0b x0o x1 x2 x3 x9 x10 x11 y8_0 y8_1 y8_2 H),ih,-eq_self]
  kernel_rfl
theorem f_eq (rec:Rec) (k:Nat):∀ a0b a0o a1 a2 a3 H,f rec k a0b a0o a1 a2 a3 H=ex PP o rec k body (St.of 232 [(0,.ptr a0b a0o),(1,.sl 1 a1),(2,.int .i64 a2),(3,.int .i64 a3)] []) H (K0 PP Go.Proofs.Try.f88):=by
 intros a0b a0o a1 a2 a3 H
 unfold f
 try simp only [l0_eq rec k,-eq_self]
 kernel_rfl
theorem call (k:Nat):∀ a0b a0o a1 a2 a3 H,callF PP orc (k + 1) spec_l20Rule.id [.ptr a0b a0o,.sl 1 a1,.int .i64 a2,.int .i64 a3] H=f (callF PP orc k) k a0b a0o a1 a2 a3 H:=by
 intros a0b a0o a1 a2 a3 H
 rw [callF_at (fn:=Go.Proofs.Try.f88) (c:=body) Go.Proofs.Try.func88 (by kernel_rfl) (Nat.le_of_ble_eq_true (by kernel_rfl)),f_eq]
 kernel_rfl
end spec_l20Rule
namespace spec_RegionsValid
noncomputable def body:Code:=(Go.Proofs.Try.f110).body.getD .skip
abbrev o:=orc spec_RegionsValid.id
noncomputable def j1 (rec:Rec) (k:Nat) (x0:Sl) (x1:Int) (H:Hp):An:=(rec spec_l1In.id [.int .i64 x1,.int .i64 2,.int .i64 4] H).bind fun r4=>r4.1.toB.bind fun b5=>bif b5 then some (.bool ((x0.len:Int) == (IntKind.i64.wrap (x1 * x1))),r4.2) else some (.bool false,r4.2)
noncomputable def l0 (rec:Rec) (k:Nat):Nat→Sl→Int→Int→Hp→An
 | 0,_,_,_,_=>none
 | n + 1,x0,x1,x5,H=>bif decide (x5 < (x0.len:Int)) then bif decide (0 ≤ (x5:Int)) && decide ((x5:Int) < x0.len) then (ldI .i64 H x0.blk (x0.off + (x5:Int).toNat * 1)).bind fun n1=>(rec spec_l1In.id [.int .i64 n1,.int .i64 0,.int .i64 (IntKind.i64.wrap (x1 - 1))] H).bind fun r2=>r2.1.toB.bind fun b3=>bif !b3 then some (.bool false,r2.2) else (l0 rec k n) x0 x1 (IntKind.i64.wrap (x5 + 1)) r2.2 else none else j1 rec k x0 x1 H
noncomputable def f (rec:Rec) (k:Nat) (a0:Sl) (a1:Int) (H:Hp):An:=l0 rec k k a0 a1 0 H
theorem j1_eq (rec:Rec) (k:Nat):∀ x0 x1 H,j1 rec k x0 x1 H=ex PP o rec k (sub body [1,1]) (St.of 30 [(0,.sl 1 x0),(1,.int .i64 x1)] []) H (kAt PP o rec k body [1,1] [] (K0 PP Go.Proofs.Try.f110)):=by
 intros x0 x1 H
 unfold j1
 kernel_rfl
theorem l0_eq (rec:Rec) (k:Nat):∀ n x0 x1 x5 H,l0 rec k n x0 x1 x5 H=iter (o.at (lbody (sub body [1,0,1,0]))) (ex PP o rec k (lbody (sub body [1,0,1,0]))) (kAt PP o rec k body [1,0,1,0] [] (K0 PP Go.Proofs.Try.f110)) n (St.of 30 [(0,.sl 1 x0),(1,.int .i64 x1),(5,.int .i64 x5)] []) H:=by
 intro n
 induction n with
 | zero=>intros; rfl
 | succ n ih=>
  intros x0 x1 x5 H
  simp only [l0,j1_eq rec k,ih,-eq_self]
  kernel_rfl
theorem f_eq (rec:Rec) (k:Nat):∀ a0 a1 H,f rec k a0 a1 H=ex PP o rec k body (St.of 30 [(0,.sl 1 a0),(1,.int .i64 a1)] []) H (K0 PP Go.Proofs.Try.f110):=by
 intros a0 a1 H
 unfold f
 try simp only [l0_eq rec k,-eq_self]
 kernel_rfl
theorem call (k:Nat):∀ a0 a1 H,callF PP orc (k + 1) spec_RegionsValid.id [.sl 1 a0,.int .i64 a1] H=f (callF PP orc k) k a0 a1 H:=by
 intros a0 a1 H
 rw [callF_at (fn:=Go.Proofs.Try.f110) (c:=body) Go.Proofs.Try.func110 (by kernel_rfl) (Nat.le_of_ble_eq_true (by kernel_rfl)),f_eq]
 kernel_rfl
end spec_RegionsValid
namespace spec_RegionCells
noncomputable def body:Code:=(Go.Proofs.Try.f111).body.getD .skip
abbrev o:=orc spec_RegionCells.id
abbrev TL0:=Sl→Int→Int→Sl→Int→Hp→An
abbrev PhL0 (rec:Rec) (k n0:Nat) (L0:TL0):Prop:=∀ x0 x1 x2 x7 x8 H,L0 x0 x1 x2 x7 x8 H=iter (o.at (lbody (sub body [1,1,0,1,0]))) (ex PP o rec k (lbody (sub body [1,1,0,1,0]))) (kAt PP o rec k body [1,1,0,1,0] [] (K0 PP Go.Proofs.Try.f111)) n0 (St.of 32 [(0,.sl 1 x0),(1,.int .i64 x1),(2,.int .i64 x2),(7,.sl 1 x7),(8,.int .i64 x8)] []) H
noncomputable def j3 (rec:Rec) (k:Nat) (x7:Sl) (H:Hp):An:=some (.sl 1 x7,H)
noncomputable def j4 (rec:Rec) (k:Nat) (L0:TL0) (x0:Sl) (x1:Int) (x2:Int) (x7:Sl) (x8:Int) (H:Hp):An:=L0 x0 x1 x2 x7 (IntKind.i64.wrap (x8 + 1)) H
noncomputable def j2 (rec:Rec) (k:Nat) (L0:TL0) (x0:Sl) (x1:Int) (x2:Int) (x7:Sl) (x8:Int) (H:Hp):An:=bif decide (0 ≤ (x8:Int)) && decide ((x8:Int) < x0.len) then (ldI .i64 H x0.blk (x0.off + (x8:Int).toNat * 1)).bind fun n3=>bif n3 == x2 then (H.app 1 x7 1 [.int .i64 x8]).bind fun w4=>j4 rec k L0 x0 x1 x2 w4.1 x8 w4.2 else j4 rec k L0 x0 x1 x2 x7 x8 H else none
noncomputable def j1 (rec:Rec) (k:Nat) (L0:TL0) (x0:Sl) (x1:Int) (x2:Int) (x7:Sl) (x8:Int) (x18:Bool) (H:Hp):An:=bif x18 then j2 rec k L0 x0 x1 x2 x7 x8 H else j3 rec k x7 H
noncomputable def l0 (rec:Rec) (k:Nat):Nat→Sl→Int→Int→Sl→Int→Hp→An
 | 0,_,_,_,_,_,_=>none
 | n + 1,x0,x1,x2,x7,x8,H=>bif decide (x8 < (x0.len:Int)) then (rec spec_RegionsValid.id [.sl 1 x0,.int .i64 x1] H).bind fun r1=>r1.1.toB.bind fun b2=>j1 rec k (l0 rec k n) x0 x1 x2 x7 x8 b2 r1.2 else j1 rec k (l0 rec k n) x0 x1 x2 x7 x8 false H
noncomputable def f (rec:Rec) (k:Nat) (a0:Sl) (a1:Int) (a2:Int) (H:Hp):An:=l0 rec k k a0 a1 a2 (Sl.mk false H.length 0 0) 0 (H ++ [some (Blk.mk false [])])
theorem j3_eq (rec:Rec) (k:Nat):∀ x7 H,j3 rec k x7 H=ex PP o rec k (sub body [1,1,1]) (St.of 32 [(7,.sl 1 x7)] []) H (kAt PP o rec k body [1,1,1] [] (K0 PP Go.Proofs.Try.f111)):=by
 intros x7 H
 unfold j3
 kernel_rfl
theorem j4_eq (rec:Rec) (k:Nat) (n0:Nat) (L0:TL0) (hL0:PhL0 rec k n0 L0):∀ x0 x1 x2 x7 x8 H,j4 rec k L0 x0 x1 x2 x7 x8 H=ex PP o rec k (sub body [1,1,0,1,0,0,1,1]) (St.of 32 [(0,.sl 1 x0),(1,.int .i64 x1),(2,.int .i64 x2),(7,.sl 1 x7),(8,.int .i64 x8)] []) H (kAt PP o rec k body [1,1,0,1,0,0,1,1] [n0] (K0 PP Go.Proofs.Try.f111)):=by
 intros x0 x1 x2 x7 x8 H
 unfold j4
 try simp only [hL0,-eq_self]
 kernel_rfl
theorem j2_eq (rec:Rec) (k:Nat) (n0:Nat) (L0:TL0) (hL0:PhL0 rec k n0 L0):∀ x0 x1 x2 x7 x8 H,j2 rec k L0 x0 x1 x2 x7 x8 H=ex PP o rec k (sub body [1,1,0,1,0,0,1]) (St.of 32 [(0,.sl 1 x0),(1,.int .i64 x1),(2,.int .i64 x2),(7,.sl 1 x7),(8,.int .i64 x8)] []) H (kAt PP o rec k body [1,1,0,1,0,0,1] [n0] (K0 PP Go.Proofs.Try.f111)):=by
 intros x0 x1 x2 x7 x8 H
 unfold j2
 try simp only [hL0,j4_eq rec k n0 L0 hL0,-eq_self]
 kernel_rfl
theorem j1_eq (rec:Rec) (k:Nat) (n0:Nat) (L0:TL0) (hL0:PhL0 rec k n0 L0):∀ x0 x1 x2 x7 x8 x18 H,j1 rec k L0 x0 x1 x2 x7 x8 x18 H=ex PP o rec k (sub body [1,1,0,1,0,0,0,1]) (St.of 32 [(0,.sl 1 x0),(1,.int .i64 x1),(2,.int .i64 x2),(7,.sl 1 x7),(8,.int .i64 x8),(18,.bool x18)] []) H (kAt PP o rec k body [1,1,0,1,0,0,0,1] [n0] (K0 PP Go.Proofs.Try.f111)):=by
 intros x0 x1 x2 x7 x8 x18 H
 unfold j1
 try simp only [hL0,j2_eq rec k n0 L0 hL0,j3_eq rec k,-eq_self]
 kernel_rfl
theorem l0_eq (rec:Rec) (k:Nat):∀ n x0 x1 x2 x7 x8 H,l0 rec k n x0 x1 x2 x7 x8 H=iter (o.at (lbody (sub body [1,1,0,1,0]))) (ex PP o rec k (lbody (sub body [1,1,0,1,0]))) (kAt PP o rec k body [1,1,0,1,0] [] (K0 PP Go.Proofs.Try.f111)) n (St.of 32 [(0,.sl 1 x0),(1,.int .i64 x1),(2,.int .i64 x2),(7,.sl 1 x7),(8,.int .i64 x8)] []) H:=by
 intro n
 induction n with
 | zero=>intros; rfl
 | succ n ih=>
  intros x0 x1 x2 x7 x8 H
  simp only [l0,j1_eq rec k n (l0 rec k n) (fun x0 x1 x2 x7 x8 H=>ih x0 x1 x2 x7 x8 H),ih,-eq_self]
  kernel_rfl
theorem f_eq (rec:Rec) (k:Nat):∀ a0 a1 a2 H,f rec k a0 a1 a2 H=ex PP o rec k body (St.of 32 [(0,.sl 1 a0),(1,.int .i64 a1),(2,.int .i64 a2)] []) H (K0 PP Go.Proofs.Try.f111):=by
 intros a0 a1 a2 H
 unfold f
 try simp only [l0_eq rec k,-eq_self]
 kernel_rfl
theorem call (k:Nat):∀ a0 a1 a2 H,callF PP orc (k + 1) spec_RegionCells.id [.sl 1 a0,.int .i64 a1,.int .i64 a2] H=f (callF PP orc k) k a0 a1 a2 H:=by
 intros a0 a1 a2 H
 rw [callF_at (fn:=Go.Proofs.Try.f111) (c:=body) Go.Proofs.Try.func111 (by kernel_rfl) (Nat.le_of_ble_eq_true (by kernel_rfl)),f_eq]
 kernel_rfl
end spec_RegionCells
namespace spec_BoxRegions
noncomputable def body:Code:=(Go.Proofs.Try.f90).body.getD .skip
abbrev o:=orc spec_BoxRegions.id
noncomputable def j1 (rec:Rec) (k:Nat) (x1:Sl) (H:Hp):An:=some (.sl 1 x1,H)
noncomputable def l0 (rec:Rec) (k:Nat):Nat→Sl→Int→Hp→An
 | 0,_,_,_=>none
 | n + 1,x1,x2,H=>bif decide (x2 < 16) then (H.app 1 x1 1 [.int .i64 (IntKind.i64.wrap ((IntKind.i64.wrap ((IntKind.i64.wrap ((x2:Int).tdiv 8)) * 2)) + (IntKind.i64.wrap (((x2:Int).tmod 4:Int).tdiv 2))))]).bind fun w1=>(l0 rec k n) w1.1 (IntKind.i64.wrap (x2 + 1)) w1.2 else j1 rec k x1 H
noncomputable def f (rec:Rec) (k:Nat) (H:Hp):An:=l0 rec k k (Sl.mk false H.length 0 0) 0 (H ++ [some (Blk.mk false [])])
theorem j1_eq (rec:Rec) (k:Nat):∀ x1 H,j1 rec k x1 H=ex PP o rec k (sub body [1,1,1]) (St.of 19 [(1,.sl 1 x1)] []) H (kAt PP o rec k body [1,1,1] [] (K0 PP Go.Proofs.Try.f90)):=by
 intros x1 H
 unfold j1
 kernel_rfl
theorem l0_eq (rec:Rec) (k:Nat):∀ n x1 x2 H,l0 rec k n x1 x2 H=iter (o.at (lbody (sub body [1,1,0,1,0]))) (ex PP o rec k (lbody (sub body [1,1,0,1,0]))) (kAt PP o rec k body [1,1,0,1,0] [] (K0 PP Go.Proofs.Try.f90)) n (St.of 19 [(1,.sl 1 x1),(2,.int .i64 x2)] []) H:=by
 intro n
 induction n with
 | zero=>intros; rfl
 | succ n ih=>
  intros x1 x2 H
  simp only [l0,j1_eq rec k,ih,-eq_self]
  kernel_rfl
theorem f_eq (rec:Rec) (k:Nat):∀ H,f rec k H=ex PP o rec k body (St.of 19 [] []) H (K0 PP Go.Proofs.Try.f90):=by
 intros H
 unfold f
 try simp only [l0_eq rec k,-eq_self]
 kernel_rfl
theorem call (k:Nat):∀ H,callF PP orc (k + 1) spec_BoxRegions.id [] H=f (callF PP orc k) k H:=by
 intros H
 rw [callF_at (fn:=Go.Proofs.Try.f90) (c:=body) Go.Proofs.Try.func90 (by kernel_rfl) (Nat.le_of_ble_eq_true (by kernel_rfl)),f_eq]
 kernel_rfl
end spec_BoxRegions
namespace spec_RegionRules
noncomputable def body:Code:=(Go.Proofs.Try.f89).body.getD .skip
abbrev o:=orc spec_RegionRules.id
noncomputable def j1 (rec:Rec) (k:Nat) (L0:Sl→Int→Sl→Int→Hp→An) (x0:Sl) (x1:Int) (x6:Sl) (x7:Int) (H:Hp):An:=L0 x0 x1 x6 (IntKind.i64.wrap (x7 + 1)) H
noncomputable def j2 (rec:Rec) (k:Nat) (x6:Sl) (H:Hp):An:=some (.tup [.sl 3 x6,.bool true],H)
noncomputable def l0 (rec:Rec) (k:Nat):Nat→Sl→Int→Sl→Int→Hp→An
 | 0,_,_,_,_,_=>none
 | n + 1,x0,x1,x6,x7,H=>bif decide (x7 < x1) then (rec spec_RegionCells.id [.sl 1 x0,.int .i64 x1,.int .i64 x7] H).bind fun r3=>(r3.1.toS 1).bind fun s4=>bif decide ((s4.len:Int) > 4) then some (.tup [.sl 3 (Sl.mk false r3.2.length 0 0),.bool false],r3.2 ++ [some (Blk.mk false [])]) else bif decide ((s4.len:Int) ≥ 2) then (r3.2.app 3 x6 1 [.int .i64 1,.sl 1 s4,.int .i64 0]).bind fun w5=>j1 rec k (l0 rec k n) x0 x1 w5.1 x7 w5.2 else j1 rec k (l0 rec k n) x0 x1 x6 x7 r3.2 else j2 rec k x6 H
noncomputable def f (rec:Rec) (k:Nat) (a0:Sl) (a1:Int) (H:Hp):An:=(rec spec_RegionsValid.id [.sl 1 a0,.int .i64 a1] (H ++ [some (Blk.mk false [])])).bind fun r1=>r1.1.toB.bind fun b2=>bif !b2 then some (.tup [.sl 3 (Sl.mk false H.length 0 0),.bool false],r1.2) else l0 rec k k a0 a1 (Sl.mk false H.length 0 0) 0 r1.2
theorem j1_eq (rec:Rec) (k:Nat) (n0:Nat) (L0:Sl→Int→Sl→Int→Hp→An) (hL0:∀ x0 x1 x6 x7 H,L0 x0 x1 x6 x7 H=iter (o.at (lbody (sub body [1,1,1,0,1,0]))) (ex PP o rec k (lbody (sub body [1,1,1,0,1,0]))) (kAt PP o rec k body [1,1,1,0,1,0] [] (K0 PP Go.Proofs.Try.f89)) n0 (St.of 37 [(0,.sl 1 x0),(1,.int .i64 x1),(6,.sl 3 x6),(7,.int .i64 x7)] []) H):∀ x0 x1 x6 x7 H,j1 rec k L0 x0 x1 x6 x7 H=ex PP o rec k (sub body [1,1,1,0,1,0,0,1,1]) (St.of 37 [(0,.sl 1 x0),(1,.int .i64 x1),(6,.sl 3 x6),(7,.int .i64 x7)] []) H (kAt PP o rec k body [1,1,1,0,1,0,0,1,1] [n0] (K0 PP Go.Proofs.Try.f89)):=by
 intros x0 x1 x6 x7 H
 unfold j1
 try simp only [hL0,-eq_self]
 kernel_rfl
theorem j2_eq (rec:Rec) (k:Nat):∀ x6 H,j2 rec k x6 H=ex PP o rec k (sub body [1,1,1,1]) (St.of 37 [(6,.sl 3 x6)] []) H (kAt PP o rec k body [1,1,1,1] [] (K0 PP Go.Proofs.Try.f89)):=by
 intros x6 H
 unfold j2
 kernel_rfl
theorem l0_eq (rec:Rec) (k:Nat):∀ n x0 x1 x6 x7 H,l0 rec k n x0 x1 x6 x7 H=iter (o.at (lbody (sub body [1,1,1,0,1,0]))) (ex PP o rec k (lbody (sub body [1,1,1,0,1,0]))) (kAt PP o rec k body [1,1,1,0,1,0] [] (K0 PP Go.Proofs.Try.f89)) n (St.of 37 [(0,.sl 1 x0),(1,.int .i64 x1),(6,.sl 3 x6),(7,.int .i64 x7)] []) H:=by
 intro n
 induction n with
 | zero=>intros; rfl
 | succ n ih=>
  intros x0 x1 x6 x7 H
  simp only [l0,j1_eq rec k n (l0 rec k n) (fun x0 x1 x6 x7 H=>ih x0 x1 x6 x7 H),j2_eq rec k,ih,-eq_self]
  kernel_rfl
theorem f_eq (rec:Rec) (k:Nat):∀ a0 a1 H,f rec k a0 a1 H=ex PP o rec k body (St.of 37 [(0,.sl 1 a0),(1,.int .i64 a1)] []) H (K0 PP Go.Proofs.Try.f89):=by
 intros a0 a1 H
 unfold f
 try simp only [l0_eq rec k,-eq_self]
 kernel_rfl
theorem call (k:Nat):∀ a0 a1 H,callF PP orc (k + 1) spec_RegionRules.id [.sl 1 a0,.int .i64 a1] H=f (callF PP orc k) k a0 a1 H:=by
 intros a0 a1 H
 rw [callF_at (fn:=Go.Proofs.Try.f89) (c:=body) Go.Proofs.Try.func89 (by kernel_rfl) (Nat.le_of_ble_eq_true (by kernel_rfl)),f_eq]
 kernel_rfl
end spec_RegionRules
end Go.Proofs.Ytchliocobgkmbaa.Rp
