/- Texts for the row of the law FnSolveSteps, part 11: the plain machine, the program's functions on it, what they come to. No conditions. -/
import Derived.Test.YtchliocobgkmbaaAb
import Derived.Test.YtchliocobgkmbaaOr
set_option linter.unusedVariables false
set_option linter.unusedSimpArgs false
set_option maxRecDepth 100000
namespace Go.Proofs.Ytchliocobgkmbaa.Rp
open Go Go.Proofs.Ytchliocobgkmbaa.Ab
namespace spec_NarrowRules
noncomputable def body:Code:=(Go.Proofs.Try.f25).body.getD .skip
abbrev o:=orc spec_NarrowRules.id
abbrev TL2:=Sl→Int→Int→Sl→Sl→Hp→An
abbrev PhL2 (rec:Rec) (k n2:Nat) (L2:TL2):Prop:=∀ x5 x6 y2_0 y2_1 y2_2 H,L2 x5 x6 y2_0 y2_1 y2_2 H=iter (o.at (lbody (sub body [1,1,1,0,1,0]))) (ex PP o rec k (lbody (sub body [1,1,1,0,1,0]))) (kAt PP o rec k body [1,1,1,0,1,0] [] (K0 PP Go.Proofs.Try.f25)) n2 (St.of 59 [(2,.lp 2 0),(5,.sl 1 x5),(6,.int .i64 x6)] [(2,[.int .i64 y2_0,.sl 1 y2_1,.sl 3 y2_2])]) H
noncomputable def j4 (rec:Rec) (k:Nat) (x5:Sl) (H:Hp):An:=some (.sl 1 x5,H)
noncomputable def j5 (rec:Rec) (k:Nat) (L2:TL2) (x5:Sl) (x6:Int) (y2_0:Int) (y2_1:Sl) (y2_2:Sl) (H:Hp):An:=L2 x5 (IntKind.i64.wrap (x6 + 1)) y2_0 y2_1 y2_2 H
noncomputable def l3 (rec:Rec) (k:Nat) (L2:TL2):Nat→Sl→Int→Sl→Int→Int→Sl→Sl→Int→Sl→Int→Hp→An
 | 0,_,_,_,_,_,_,_,_,_,_,_=>none
 | n + 1,x5,x6,x8,x9,y2_0,y2_1,y2_2,y7_0,y7_1,y7_2,H=>bif decide (x9 < (y7_1.len:Int)) then bif decide (0 ≤ (x9:Int)) && decide ((x9:Int) < y7_1.len) then (ldI .i64 H y7_1.blk (y7_1.off + (x9:Int).toNat * 1)).bind fun n12=>bif decide (0 ≤ (x9:Int)) && decide ((x9:Int) < x8.len) then (ldI .i64 H x8.blk (x8.off + (x9:Int).toNat * 1)).bind fun n13=>bif decide (0 ≤ (n12:Int)) && decide ((n12:Int) < x5.len) then (H.sto x5.blk (x5.off + (n12:Int).toNat * 1) [.int .i64 n13]).bind fun H14=>(l3 rec k L2 n) x5 x6 x8 (IntKind.i64.wrap (x9 + 1)) y2_0 y2_1 y2_2 y7_0 y7_1 y7_2 H14 else none else none else none else j5 rec k L2 x5 x6 y2_0 y2_1 y2_2 H
noncomputable def l2 (rec:Rec) (k:Nat):Nat→Sl→Int→Int→Sl→Sl→Hp→An
 | 0,_,_,_,_,_,_=>none
 | n + 1,x5,x6,y2_0,y2_1,y2_2,H=>bif decide (x6 < (y2_2.len:Int)) then bif decide (0 ≤ (x6:Int)) && decide ((x6:Int) < y2_2.len) then (ldI .i64 H y2_2.blk (y2_2.off + (x6:Int).toNat * 3)).bind fun n7=>(ldS 1 H y2_2.blk (y2_2.off + (x6:Int).toNat * 3 + 1)).bind fun s8=>(ldI .i64 H y2_2.blk (y2_2.off + (x6:Int).toNat * 3 + 1 + 1)).bind fun n9=>(rec spec_RuleMasks.id [.agg [.int .i64 n7,.sl 1 s8,.int .i64 n9],.sl 1 x5,.int .i64 y2_0] H).bind fun r10=>(r10.1.toS 1).bind fun s11=>l3 rec k (l2 rec k n) k x5 x6 s11 0 y2_0 y2_1 y2_2 n7 s8 n9 r10.2 else none else j4 rec k x5 H
noncomputable def j1 (rec:Rec) (k:Nat) (x1:Sl) (y2_0:Int) (y2_1:Sl) (y2_2:Sl) (H:Hp):An:=(rec spec_l6Copy.id [.sl 1 x1] H).bind fun r5=>(r5.1.toS 1).bind fun s6=>l2 rec k k s6 0 y2_0 y2_1 y2_2 r5.2
noncomputable def j0 (rec:Rec) (k:Nat) (x1:Sl) (x19:Bool) (y2_0:Int) (y2_1:Sl) (y2_2:Sl) (H:Hp):An:=bif x19 then some (.sl 1 (Sl.mk false H.length 0 0),H ++ [some (Blk.mk false [])]) else j1 rec k x1 y2_0 y2_1 y2_2 H
noncomputable def f (rec:Rec) (k:Nat) (a0_0:Int) (a0_1:Sl) (a0_2:Sl) (a1:Sl) (H:Hp):An:=(rec spec_PuzzleValid.id [.agg [.int .i64 a0_0,.sl 1 a0_1,.sl 3 a0_2]] H).bind fun r1=>r1.1.toB.bind fun b2=>bif !b2 then j0 rec k a1 true a0_0 a0_1 a0_2 r1.2 else (rec spec_MasksValid.id [.sl 1 a1,.int .i64 a0_0] r1.2).bind fun r3=>r3.1.toB.bind fun b4=>j0 rec k a1 (!b4) a0_0 a0_1 a0_2 r3.2
theorem j4_eq (rec:Rec) (k:Nat):∀ x5 H,j4 rec k x5 H=ex PP o rec k (sub body [1,1,1,1]) (St.of 59 [(5,.sl 1 x5)] []) H (kAt PP o rec k body [1,1,1,1] [] (K0 PP Go.Proofs.Try.f25)):=by
 intros x5 H
 unfold j4
 kernel_rfl
theorem j5_eq (rec:Rec) (k:Nat) (n2:Nat) (L2:TL2) (hL2:PhL2 rec k n2 L2):∀ x5 x6 y2_0 y2_1 y2_2 H,j5 rec k L2 x5 x6 y2_0 y2_1 y2_2 H=ex PP o rec k (sub body [1,1,1,0,1,0,0,1,1]) (St.of 59 [(2,.lp 2 0),(5,.sl 1 x5),(6,.int .i64 x6)] [(2,[.int .i64 y2_0,.sl 1 y2_1,.sl 3 y2_2])]) H (kAt PP o rec k body [1,1,1,0,1,0,0,1,1] [n2] (K0 PP Go.Proofs.Try.f25)):=by
 intros x5 x6 y2_0 y2_1 y2_2 H
 unfold j5
 try simp only [hL2,-eq_self]
 kernel_rfl
theorem l3_eq (rec:Rec) (k:Nat) (n2:Nat) (L2:TL2) (hL2:PhL2 rec k n2 L2):∀ n x5 x6 x8 x9 y2_0 y2_1 y2_2 y7_0 y7_1 y7_2 H,l3 rec k L2 n x5 x6 x8 x9 y2_0 y2_1 y2_2 y7_0 y7_1 y7_2 H=iter (o.at (lbody (sub body [1,1,1,0,1,0,0,1,0,0,1,1,1,0]))) (ex PP o rec k (lbody (sub body [1,1,1,0,1,0,0,1,0,0,1,1,1,0]))) (kAt PP o rec k body [1,1,1,0,1,0,0,1,0,0,1,1,1,0] [n2] (K0 PP Go.Proofs.Try.f25)) n (St.of 59 [(2,.lp 2 0),(5,.sl 1 x5),(6,.int .i64 x6),(7,.lp 7 0),(8,.sl 1 x8),(9,.int .i64 x9)] [(2,[.int .i64 y2_0,.sl 1 y2_1,.sl 3 y2_2]),(7,[.int .i64 y7_0,.sl 1 y7_1,.int .i64 y7_2])]) H:=by
 intro n
 induction n with
 | zero=>intros; rfl
 | succ n ih=>
  intros x5 x6 x8 x9 y2_0 y2_1 y2_2 y7_0 y7_1 y7_2 H
  simp only [l3,hL2,j5_eq rec k n2 L2 hL2,ih,-eq_self]
  kernel_rfl
theorem l2_eq (rec:Rec) (k:Nat):∀ n x5 x6 y2_0 y2_1 y2_2 H,l2 rec k n x5 x6 y2_0 y2_1 y2_2 H=iter (o.at (lbody (sub body [1,1,1,0,1,0]))) (ex PP o rec k (lbody (sub body [1,1,1,0,1,0]))) (kAt PP o rec k body [1,1,1,0,1,0] [] (K0 PP Go.Proofs.Try.f25)) n (St.of 59 [(2,.lp 2 0),(5,.sl 1 x5),(6,.int .i64 x6)] [(2,[.int .i64 y2_0,.sl 1 y2_1,.sl 3 y2_2])]) H:=by
 intro n
 induction n with
 | zero=>intros; rfl
 | succ n ih=>
  intros x5 x6 y2_0 y2_1 y2_2 H
  simp only [l2,l3_eq rec k n (l2 rec k n) (fun x5 x6 y2_0 y2_1 y2_2 H=>ih x5 x6 y2_0 y2_1 y2_2 H),j4_eq rec k,ih,-eq_self]
  kernel_rfl
theorem j1_eq (rec:Rec) (k:Nat):∀ x1 y2_0 y2_1 y2_2 H,j1 rec k x1 y2_0 y2_1 y2_2 H=ex PP o rec k (sub body [1,1]) (St.of 59 [(1,.sl 1 x1),(2,.lp 2 0)] [(2,[.int .i64 y2_0,.sl 1 y2_1,.sl 3 y2_2])]) H (kAt PP o rec k body [1,1] [] (K0 PP Go.Proofs.Try.f25)):=by
 intros x1 y2_0 y2_1 y2_2 H
 unfold j1
 try simp only [l2_eq rec k,-eq_self]
 kernel_rfl
theorem j0_eq (rec:Rec) (k:Nat):∀ x1 x19 y2_0 y2_1 y2_2 H,j0 rec k x1 x19 y2_0 y2_1 y2_2 H=ex PP o rec k (sub body [1,0,1]) (St.of 59 [(1,.sl 1 x1),(2,.lp 2 0),(19,.bool x19)] [(2,[.int .i64 y2_0,.sl 1 y2_1,.sl 3 y2_2])]) H (kAt PP o rec k body [1,0,1] [] (K0 PP Go.Proofs.Try.f25)):=by
 intros x1 x19 y2_0 y2_1 y2_2 H
 unfold j0
 try simp only [j1_eq rec k,-eq_self]
 kernel_rfl
theorem f_eq (rec:Rec) (k:Nat):∀ a0_0 a0_1 a0_2 a1 H,f rec k a0_0 a0_1 a0_2 a1 H=ex PP o rec k body (St.of 59 [(0,.agg [.int .i64 a0_0,.sl 1 a0_1,.sl 3 a0_2]),(1,.sl 1 a1)] []) H (K0 PP Go.Proofs.Try.f25):=by
 intros a0_0 a0_1 a0_2 a1 H
 unfold f
 try simp only [j0_eq rec k,-eq_self]
 kernel_rfl
theorem call (k:Nat):∀ a0_0 a0_1 a0_2 a1 H,callF PP orc (k + 1) spec_NarrowRules.id [.agg [.int .i64 a0_0,.sl 1 a0_1,.sl 3 a0_2],.sl 1 a1] H=f (callF PP orc k) k a0_0 a0_1 a0_2 a1 H:=by
 intros a0_0 a0_1 a0_2 a1 H
 rw [callF_at (fn:=Go.Proofs.Try.f25) (c:=body) Go.Proofs.Try.func25 (by kernel_rfl) (Nat.le_of_ble_eq_true (by kernel_rfl)),f_eq]
 kernel_rfl
end spec_NarrowRules
namespace spec_l8Same
noncomputable def body:Code:=(Go.Proofs.Try.f76).body.getD .skip
abbrev o:=orc spec_l8Same.id
noncomputable def l0 (rec:Rec) (k:Nat):Nat→Sl→Sl→Int→Hp→An
 | 0,_,_,_,_=>none
 | n + 1,x0,x1,x5,H=>bif decide (x5 < (x0.len:Int)) then bif decide (0 ≤ (x5:Int)) && decide ((x5:Int) < x0.len) then (ldI .i64 H x0.blk (x0.off + (x5:Int).toNat * 1)).bind fun n1=>bif decide (0 ≤ (x5:Int)) && decide ((x5:Int) < x1.len) then (ldI .i64 H x1.blk (x1.off + (x5:Int).toNat * 1)).bind fun n2=>bif n1 != n2 then some (.bool false,H) else (l0 rec k n) x0 x1 (IntKind.i64.wrap (x5 + 1)) H else none else none else some (.bool true,H)
noncomputable def f (rec:Rec) (k:Nat) (a0:Sl) (a1:Sl) (H:Hp):An:=bif (a0.len:Int) != (a1.len:Int) then some (.bool false,H) else l0 rec k k a0 a1 0 H
theorem l0_eq (rec:Rec) (k:Nat):∀ n x0 x1 x5 H,l0 rec k n x0 x1 x5 H=iter (o.at (lbody (sub body [1,1,0,1,0]))) (ex PP o rec k (lbody (sub body [1,1,0,1,0]))) (kAt PP o rec k body [1,1,0,1,0] [] (K0 PP Go.Proofs.Try.f76)) n (St.of 26 [(0,.sl 1 x0),(1,.sl 1 x1),(5,.int .i64 x5)] []) H:=by
 intro n
 induction n with
 | zero=>intros; rfl
 | succ n ih=>
  intros x0 x1 x5 H
  simp only [l0,ih,-eq_self]
  kernel_rfl
theorem f_eq (rec:Rec) (k:Nat):∀ a0 a1 H,f rec k a0 a1 H=ex PP o rec k body (St.of 26 [(0,.sl 1 a0),(1,.sl 1 a1)] []) H (K0 PP Go.Proofs.Try.f76):=by
 intros a0 a1 H
 unfold f
 try simp only [l0_eq rec k,-eq_self]
 kernel_rfl
theorem call (k:Nat):∀ a0 a1 H,callF PP orc (k + 1) spec_l8Same.id [.sl 1 a0,.sl 1 a1] H=f (callF PP orc k) k a0 a1 H:=by
 intros a0 a1 H
 rw [callF_at (fn:=Go.Proofs.Try.f76) (c:=body) Go.Proofs.Try.func76 (by kernel_rfl) (Nat.le_of_ble_eq_true (by kernel_rfl)),f_eq]
 kernel_rfl
end spec_l8Same
namespace spec_NarrowBy
noncomputable def body:Code:=(Go.Proofs.Try.f75).body.getD .skip
abbrev o:=orc spec_NarrowBy.id
noncomputable def j1 (rec:Rec) (k:Nat) (x1:Sl) (x2:Int) (y3_0:Int) (y3_1:Sl) (y3_2:Sl) (H:Hp):An:=bif x2 == 1 then (rec spec_NarrowSingles.id [.sl 1 x1,.int .i64 y3_0] H).bind fun r5=>(r5.1.toS 1).bind fun s6=>some (.sl 1 s6,r5.2) else bif x2 == 2 then (rec spec_NarrowHidden.id [.sl 1 x1,.int .i64 y3_0] H).bind fun r7=>(r7.1.toS 1).bind fun s8=>some (.sl 1 s8,r7.2) else bif x2 == 3 then (rec spec_NarrowPairs.id [.sl 1 x1,.int .i64 y3_0] H).bind fun r9=>(r9.1.toS 1).bind fun s10=>some (.sl 1 s10,r9.2) else bif x2 == 4 then (rec spec_NarrowRules.id [.agg [.int .i64 y3_0,.sl 1 y3_1,.sl 3 y3_2],.sl 1 x1] H).bind fun r11=>(r11.1.toS 1).bind fun s12=>some (.sl 1 s12,r11.2) else some (.sl 1 (Sl.mk false H.length 0 0),H ++ [some (Blk.mk false [])])
noncomputable def j0 (rec:Rec) (k:Nat) (x1:Sl) (x2:Int) (x16:Bool) (y3_0:Int) (y3_1:Sl) (y3_2:Sl) (H:Hp):An:=bif x16 then some (.sl 1 (Sl.mk false H.length 0 0),H ++ [some (Blk.mk false [])]) else j1 rec k x1 x2 y3_0 y3_1 y3_2 H
noncomputable def f (rec:Rec) (k:Nat) (a0_0:Int) (a0_1:Sl) (a0_2:Sl) (a1:Sl) (a2:Int) (H:Hp):An:=(rec spec_PuzzleValid.id [.agg [.int .i64 a0_0,.sl 1 a0_1,.sl 3 a0_2]] H).bind fun r1=>r1.1.toB.bind fun b2=>bif !b2 then j0 rec k a1 a2 true a0_0 a0_1 a0_2 r1.2 else (rec spec_MasksValid.id [.sl 1 a1,.int .i64 a0_0] r1.2).bind fun r3=>r3.1.toB.bind fun b4=>j0 rec k a1 a2 (!b4) a0_0 a0_1 a0_2 r3.2
theorem j1_eq (rec:Rec) (k:Nat):∀ x1 x2 y3_0 y3_1 y3_2 H,j1 rec k x1 x2 y3_0 y3_1 y3_2 H=ex PP o rec k (sub body [1,1]) (St.of 43 [(1,.sl 1 x1),(2,.int .i64 x2),(3,.lp 3 0)] [(3,[.int .i64 y3_0,.sl 1 y3_1,.sl 3 y3_2])]) H (kAt PP o rec k body [1,1] [] (K0 PP Go.Proofs.Try.f75)):=by
 intros x1 x2 y3_0 y3_1 y3_2 H
 unfold j1
 kernel_rfl
theorem j0_eq (rec:Rec) (k:Nat):∀ x1 x2 x16 y3_0 y3_1 y3_2 H,j0 rec k x1 x2 x16 y3_0 y3_1 y3_2 H=ex PP o rec k (sub body [1,0,1]) (St.of 43 [(1,.sl 1 x1),(2,.int .i64 x2),(3,.lp 3 0),(16,.bool x16)] [(3,[.int .i64 y3_0,.sl 1 y3_1,.sl 3 y3_2])]) H (kAt PP o rec k body [1,0,1] [] (K0 PP Go.Proofs.Try.f75)):=by
 intros x1 x2 x16 y3_0 y3_1 y3_2 H
 unfold j0
 try simp only [j1_eq rec k,-eq_self]
 kernel_rfl
theorem f_eq (rec:Rec) (k:Nat):∀ a0_0 a0_1 a0_2 a1 a2 H,f rec k a0_0 a0_1 a0_2 a1 a2 H=ex PP o rec k body (St.of 43 [(0,.agg [.int .i64 a0_0,.sl 1 a0_1,.sl 3 a0_2]),(1,.sl 1 a1),(2,.int .i64 a2)] []) H (K0 PP Go.Proofs.Try.f75):=by
 intros a0_0 a0_1 a0_2 a1 a2 H
 unfold f
 try simp only [j0_eq rec k,-eq_self]
 kernel_rfl
theorem call (k:Nat):∀ a0_0 a0_1 a0_2 a1 a2 H,callF PP orc (k + 1) spec_NarrowBy.id [.agg [.int .i64 a0_0,.sl 1 a0_1,.sl 3 a0_2],.sl 1 a1,.int .i64 a2] H=f (callF PP orc k) k a0_0 a0_1 a0_2 a1 a2 H:=by
 intros a0_0 a0_1 a0_2 a1 a2 H
 rw [callF_at (fn:=Go.Proofs.Try.f75) (c:=body) Go.Proofs.Try.func75 (by kernel_rfl) (Nat.le_of_ble_eq_true (by kernel_rfl)),f_eq]
 kernel_rfl
end spec_NarrowBy
namespace impl_RuleMasks
noncomputable def body:Code:=(Go.Proofs.Try.f66).body.getD .skip
abbrev o:=orc impl_RuleMasks.id
noncomputable def j3 (rec:Rec) (k:Nat) (x7:Sl) (y3_0:Int) (y3_1:Sl) (y3_2:Int) (H:Hp):An:=(rec impl_ruleMasks.id [.agg [.int .i64 y3_0,.sl 1 y3_1,.int .i64 y3_2],.sl 1 x7] H).bind fun r8=>(r8.1.toS 1).bind fun s9=>some (.sl 1 s9,r8.2)
noncomputable def l2 (rec:Rec) (k:Nat):Nat→Sl→Sl→Sl→Int→Int→Int→Sl→Int→Hp→An
 | 0,_,_,_,_,_,_,_,_,_=>none
 | n + 1,x1,x7,x22,x23,x24,y3_0,y3_1,y3_2,H=>bif decide (x24 < x23) then bif decide (0 ≤ (x24:Int)) && decide ((x24:Int) < x22.len) then (ldI .i64 H x22.blk (x22.off + (x24:Int).toNat * 1)).bind fun n5=>bif decide (0 ≤ (n5:Int)) && decide ((n5:Int) < x1.len) then (ldI .i64 H x1.blk (x1.off + (n5:Int).toNat * 1)).bind fun n6=>(H.app 1 x7 1 [.int .i64 n6]).bind fun w7=>(l2 rec k n) x1 w7.1 x22 x23 (IntKind.i64.wrap (x24 + 1)) y3_0 y3_1 y3_2 w7.2 else none else none else j3 rec k x7 y3_0 y3_1 y3_2 H
noncomputable def j1 (rec:Rec) (k:Nat) (x1:Sl) (y3_0:Int) (y3_1:Sl) (y3_2:Int) (H:Hp):An:=l2 rec k k x1 (Sl.mk false H.length 0 0) y3_1 (y3_1.len:Int) 0 y3_0 y3_1 y3_2 (H ++ [some (Blk.mk false [])])
noncomputable def j0 (rec:Rec) (k:Nat) (x1:Sl) (x19:Bool) (y3_0:Int) (y3_1:Sl) (y3_2:Int) (H:Hp):An:=bif x19 then some (.sl 1 Sl.none,H) else j1 rec k x1 y3_0 y3_1 y3_2 H
noncomputable def f (rec:Rec) (k:Nat) (a0_0:Int) (a0_1:Sl) (a0_2:Int) (a1:Sl) (a2:Int) (H:Hp):An:=(rec impl_RuleValid.id [.agg [.int .i64 a0_0,.sl 1 a0_1,.int .i64 a0_2],.int .i64 a2] H).bind fun r1=>r1.1.toB.bind fun b2=>bif !b2 then j0 rec k a1 true a0_0 a0_1 a0_2 r1.2 else (rec impl_MasksValid.id [.sl 1 a1,.int .i64 a2] r1.2).bind fun r3=>r3.1.toB.bind fun b4=>j0 rec k a1 (!b4) a0_0 a0_1 a0_2 r3.2
theorem j3_eq (rec:Rec) (k:Nat):∀ x7 y3_0 y3_1 y3_2 H,j3 rec k x7 y3_0 y3_1 y3_2 H=ex PP o rec k (sub body [1,1,1,1]) (St.of 39 [(3,.lp 3 0),(7,.sl 1 x7)] [(3,[.int .i64 y3_0,.sl 1 y3_1,.int .i64 y3_2])]) H (kAt PP o rec k body [1,1,1,1] [] (K0 PP Go.Proofs.Try.f66)):=by
 intros x7 y3_0 y3_1 y3_2 H
 unfold j3
 kernel_rfl
theorem l2_eq (rec:Rec) (k:Nat):∀ n x1 x7 x22 x23 x24 y3_0 y3_1 y3_2 H,l2 rec k n x1 x7 x22 x23 x24 y3_0 y3_1 y3_2 H=iter (o.at (lbody (sub body [1,1,1,0,1,0]))) (ex PP o rec k (lbody (sub body [1,1,1,0,1,0]))) (kAt PP o rec k body [1,1,1,0,1,0] [] (K0 PP Go.Proofs.Try.f66)) n (St.of 39 [(1,.sl 1 x1),(3,.lp 3 0),(7,.sl 1 x7),(22,.sl 1 x22),(23,.int .i64 x23),(24,.int .i64 x24)] [(3,[.int .i64 y3_0,.sl 1 y3_1,.int .i64 y3_2])]) H:=by
 intro n
 induction n with
 | zero=>intros; rfl
 | succ n ih=>
  intros x1 x7 x22 x23 x24 y3_0 y3_1 y3_2 H
  simp only [l2,j3_eq rec k,ih,-eq_self]
  kernel_rfl
theorem j1_eq (rec:Rec) (k:Nat):∀ x1 y3_0 y3_1 y3_2 H,j1 rec k x1 y3_0 y3_1 y3_2 H=ex PP o rec k (sub body [1,1]) (St.of 39 [(1,.sl 1 x1),(3,.lp 3 0)] [(3,[.int .i64 y3_0,.sl 1 y3_1,.int .i64 y3_2])]) H (kAt PP o rec k body [1,1] [] (K0 PP Go.Proofs.Try.f66)):=by
 intros x1 y3_0 y3_1 y3_2 H
 unfold j1
 try simp only [l2_eq rec k,-eq_self]
 kernel_rfl
theorem j0_eq (rec:Rec) (k:Nat):∀ x1 x19 y3_0 y3_1 y3_2 H,j0 rec k x1 x19 y3_0 y3_1 y3_2 H=ex PP o rec k (sub body [1,0,1]) (St.of 39 [(1,.sl 1 x1),(3,.lp 3 0),(19,.bool x19)] [(3,[.int .i64 y3_0,.sl 1 y3_1,.int .i64 y3_2])]) H (kAt PP o rec k body [1,0,1] [] (K0 PP Go.Proofs.Try.f66)):=by
 intros x1 x19 y3_0 y3_1 y3_2 H
 unfold j0
 try simp only [j1_eq rec k,-eq_self]
 kernel_rfl
theorem f_eq (rec:Rec) (k:Nat):∀ a0_0 a0_1 a0_2 a1 a2 H,f rec k a0_0 a0_1 a0_2 a1 a2 H=ex PP o rec k body (St.of 39 [(0,.agg [.int .i64 a0_0,.sl 1 a0_1,.int .i64 a0_2]),(1,.sl 1 a1),(2,.int .i64 a2)] []) H (K0 PP Go.Proofs.Try.f66):=by
 intros a0_0 a0_1 a0_2 a1 a2 H
 unfold f
 try simp only [j0_eq rec k,-eq_self]
 kernel_rfl
theorem call (k:Nat):∀ a0_0 a0_1 a0_2 a1 a2 H,callF PP orc (k + 1) impl_RuleMasks.id [.agg [.int .i64 a0_0,.sl 1 a0_1,.int .i64 a0_2],.sl 1 a1,.int .i64 a2] H=f (callF PP orc k) k a0_0 a0_1 a0_2 a1 a2 H:=by
 intros a0_0 a0_1 a0_2 a1 a2 H
 rw [callF_at (fn:=Go.Proofs.Try.f66) (c:=body) Go.Proofs.Try.func66 (by kernel_rfl) (Nat.le_of_ble_eq_true (by kernel_rfl)),f_eq]
 kernel_rfl
end impl_RuleMasks
namespace impl_NarrowRules
noncomputable def body:Code:=(Go.Proofs.Try.f24).body.getD .skip
abbrev o:=orc impl_NarrowRules.id
abbrev TL2:=Sl→Sl→Int→Int→Int→Sl→Sl→Hp→An
abbrev PhL2 (rec:Rec) (k n2:Nat) (L2:TL2):Prop:=∀ x5 x23 x24 x25 y2_0 y2_1 y2_2 H,L2 x5 x23 x24 x25 y2_0 y2_1 y2_2 H=iter (o.at (lbody (sub body [1,1,1,0,1,0]))) (ex PP o rec k (lbody (sub body [1,1,1,0,1,0]))) (kAt PP o rec k body [1,1,1,0,1,0] [] (K0 PP Go.Proofs.Try.f24)) n2 (St.of 51 [(2,.lp 2 0),(5,.sl 1 x5),(23,.sl 3 x23),(24,.int .i64 x24),(25,.int .i64 x25)] [(2,[.int .i64 y2_0,.sl 1 y2_1,.sl 3 y2_2])]) H
noncomputable def j4 (rec:Rec) (k:Nat) (x5:Sl) (H:Hp):An:=some (.sl 1 x5,H)
noncomputable def j5 (rec:Rec) (k:Nat) (L2:TL2) (x5:Sl) (x23:Sl) (x24:Int) (x25:Int) (y2_0:Int) (y2_1:Sl) (y2_2:Sl) (H:Hp):An:=L2 x5 x23 x24 (IntKind.i64.wrap (x25 + 1)) y2_0 y2_1 y2_2 H
noncomputable def l3 (rec:Rec) (k:Nat) (L2:TL2):Nat→Sl→Sl→Int→Int→Sl→Int→Int→Int→Sl→Sl→Int→Sl→Int→Hp→An
 | 0,_,_,_,_,_,_,_,_,_,_,_,_,_,_=>none
 | n + 1,x5,x23,x24,x25,x33,x34,x35,y2_0,y2_1,y2_2,y7_0,y7_1,y7_2,H=>bif decide (x35 < x34) then bif decide (0 ≤ (x35:Int)) && decide ((x35:Int) < x33.len) then (ldI .i64 H x33.blk (x33.off + (x35:Int).toNat * 1)).bind fun n12=>bif decide (0 ≤ (x35:Int)) && decide ((x35:Int) < y7_1.len) then (ldI .i64 H y7_1.blk (y7_1.off + (x35:Int).toNat * 1)).bind fun n13=>bif decide (0 ≤ (n13:Int)) && decide ((n13:Int) < x5.len) then (H.sto x5.blk (x5.off + (n13:Int).toNat * 1) [.int .i64 n12]).bind fun H14=>(l3 rec k L2 n) x5 x23 x24 x25 x33 x34 (IntKind.i64.wrap (x35 + 1)) y2_0 y2_1 y2_2 y7_0 y7_1 y7_2 H14 else none else none else none else j5 rec k L2 x5 x23 x24 x25 y2_0 y2_1 y2_2 H
noncomputable def l2 (rec:Rec) (k:Nat):Nat→Sl→Sl→Int→Int→Int→Sl→Sl→Hp→An
 | 0,_,_,_,_,_,_,_,_=>none
 | n + 1,x5,x23,x24,x25,y2_0,y2_1,y2_2,H=>bif decide (x25 < x24) then bif decide (0 ≤ (x25:Int)) && decide ((x25:Int) < x23.len) then (ldI .i64 H x23.blk (x23.off + (x25:Int).toNat * 3)).bind fun n7=>(ldS 1 H x23.blk (x23.off + (x25:Int).toNat * 3 + 1)).bind fun s8=>(ldI .i64 H x23.blk (x23.off + (x25:Int).toNat * 3 + 1 + 1)).bind fun n9=>(rec impl_RuleMasks.id [.agg [.int .i64 n7,.sl 1 s8,.int .i64 n9],.sl 1 x5,.int .i64 y2_0] H).bind fun r10=>(r10.1.toS 1).bind fun s11=>l3 rec k (l2 rec k n) k x5 x23 x24 x25 s11 (s11.len:Int) 0 y2_0 y2_1 y2_2 n7 s8 n9 r10.2 else none else j4 rec k x5 H
noncomputable def j1 (rec:Rec) (k:Nat) (x1:Sl) (y2_0:Int) (y2_1:Sl) (y2_2:Sl) (H:Hp):An:=(rec slices_Clone_int.id [.sl 1 x1] H).bind fun r5=>(r5.1.toS 1).bind fun s6=>l2 rec k k s6 y2_2 (y2_2.len:Int) 0 y2_0 y2_1 y2_2 r5.2
noncomputable def j0 (rec:Rec) (k:Nat) (x1:Sl) (x19:Bool) (y2_0:Int) (y2_1:Sl) (y2_2:Sl) (H:Hp):An:=bif x19 then some (.sl 1 Sl.none,H) else j1 rec k x1 y2_0 y2_1 y2_2 H
noncomputable def f (rec:Rec) (k:Nat) (a0_0:Int) (a0_1:Sl) (a0_2:Sl) (a1:Sl) (H:Hp):An:=(rec impl_PuzzleValid.id [.agg [.int .i64 a0_0,.sl 1 a0_1,.sl 3 a0_2]] H).bind fun r1=>r1.1.toB.bind fun b2=>bif !b2 then j0 rec k a1 true a0_0 a0_1 a0_2 r1.2 else (rec impl_MasksValid.id [.sl 1 a1,.int .i64 a0_0] r1.2).bind fun r3=>r3.1.toB.bind fun b4=>j0 rec k a1 (!b4) a0_0 a0_1 a0_2 r3.2
theorem j4_eq (rec:Rec) (k:Nat):∀ x5 H,j4 rec k x5 H=ex PP o rec k (sub body [1,1,1,1]) (St.of 51 [(5,.sl 1 x5)] []) H (kAt PP o rec k body [1,1,1,1] [] (K0 PP Go.Proofs.Try.f24)):=by
 intros x5 H
 unfold j4
 kernel_rfl
theorem j5_eq (rec:Rec) (k:Nat) (n2:Nat) (L2:TL2) (hL2:PhL2 rec k n2 L2):∀ x5 x23 x24 x25 y2_0 y2_1 y2_2 H,j5 rec k L2 x5 x23 x24 x25 y2_0 y2_1 y2_2 H=ex PP o rec k (sub body [1,1,1,0,1,0,0,1,1,1]) (St.of 51 [(2,.lp 2 0),(5,.sl 1 x5),(23,.sl 3 x23),(24,.int .i64 x24),(25,.int .i64 x25)] [(2,[.int .i64 y2_0,.sl 1 y2_1,.sl 3 y2_2])]) H (kAt PP o rec k body [1,1,1,0,1,0,0,1,1,1] [n2] (K0 PP Go.Proofs.Try.f24)):=by
 intros x5 x23 x24 x25 y2_0 y2_1 y2_2 H
 unfold j5
 try simp only [hL2,-eq_self]
 kernel_rfl
theorem l3_eq (rec:Rec) (k:Nat) (n2:Nat) (L2:TL2) (hL2:PhL2 rec k n2 L2):∀ n x5 x23 x24 x25 x33 x34 x35 y2_0 y2_1 y2_2 y7_0 y7_1 y7_2 H,l3 rec k L2 n x5 x23 x24 x25 x33 x34 x35 y2_0 y2_1 y2_2 y7_0 y7_1 y7_2 H=iter (o.at (lbody (sub body [1,1,1,0,1,0,0,1,1,0,0,1,1,0]))) (ex PP o rec k (lbody (sub body [1,1,1,0,1,0,0,1,1,0,0,1,1,0]))) (kAt PP o rec k body [1,1,1,0,1,0,0,1,1,0,0,1,1,0] [n2] (K0 PP Go.Proofs.Try.f24)) n (St.of 51 [(2,.lp 2 0),(5,.sl 1 x5),(7,.lp 7 0),(23,.sl 3 x23),(24,.int .i64 x24),(25,.int .i64 x25),(33,.sl 1 x33),(34,.int .i64 x34),(35,.int .i64 x35)] [(2,[.int .i64 y2_0,.sl 1 y2_1,.sl 3 y2_2]),(7,[.int .i64 y7_0,.sl 1 y7_1,.int .i64 y7_2])]) H:=by
 intro n
 induction n with
 | zero=>intros; rfl
 | succ n ih=>
  intros x5 x23 x24 x25 x33 x34 x35 y2_0 y2_1 y2_2 y7_0 y7_1 y7_2 H
  simp only [l3,hL2,j5_eq rec k n2 L2 hL2,ih,-eq_self]
  kernel_rfl
theorem l2_eq (rec:Rec) (k:Nat):∀ n x5 x23 x24 x25 y2_0 y2_1 y2_2 H,l2 rec k n x5 x23 x24 x25 y2_0 y2_1 y2_2 H=iter (o.at (lbody (sub body [1,1,1,0,1,0]))) (ex PP o rec k (lbody (sub body [1,1,1,0,1,0]))) (kAt PP o rec k body [1,1,1,0,1,0] [] (K0 PP Go.Proofs.Try.f24)) n (St.of 51 [(2,.lp 2 0),(5,.sl 1 x5),(23,.sl 3 x23),(24,.int .i64 x24),(25,.int .i64 x25)] [(2,[.int .i64 y2_0,.sl 1 y2_1,.sl 3 y2_2])]) H:=by
 intro n
 induction n with
 | zero=>intros; rfl
 | succ n ih=>
  intros x5 x23 x24 x25 y2_0 y2_1 y2_2 H
  simp only [l2,l3_eq rec k n (l2 rec k n) (fun x5 x23 x24 x25 y2_0 y2_1 y2_2 H=>ih x5 x23 x24 x25 y2_0 y2_1 y2_2 H),j4_eq rec k,ih,-eq_self]
  kernel_rfl
theorem j1_eq (rec:Rec) (k:Nat):∀ x1 y2_0 y2_1 y2_2 H,j1 rec k x1 y2_0 y2_1 y2_2 H=ex PP o rec k (sub body [1,1]) (St.of 51 [(1,.sl 1 x1),(2,.lp 2 0)] [(2,[.int .i64 y2_0,.sl 1 y2_1,.sl 3 y2_2])]) H (kAt PP o rec k body [1,1] [] (K0 PP Go.Proofs.Try.f24)):=by
 intros x1 y2_0 y2_1 y2_2 H
 unfold j1
 try simp only [l2_eq rec k,-eq_self]
 kernel_rfl
theorem j0_eq (rec:Rec) (k:Nat):∀ x1 x19 y2_0 y2_1 y2_2 H,j0 rec k x1 x19 y2_0 y2_1 y2_2 H=ex PP o rec k (sub body [1,0,1]) (St.of 51 [(1,.sl 1 x1),(2,.lp 2 0),(19,.bool x19)] [(2,[.int .i64 y2_0,.sl 1 y2_1,.sl 3 y2_2])]) H (kAt PP o rec k body [1,0,1] [] (K0 PP Go.Proofs.Try.f24)):=by
 intros x1 x19 y2_0 y2_1 y2_2 H
 unfold j0
 try simp only [j1_eq rec k,-eq_self]
 kernel_rfl
theorem f_eq (rec:Rec) (k:Nat):∀ a0_0 a0_1 a0_2 a1 H,f rec k a0_0 a0_1 a0_2 a1 H=ex PP o rec k body (St.of 51 [(0,.agg [.int .i64 a0_0,.sl 1 a0_1,.sl 3 a0_2]),(1,.sl 1 a1)] []) H (K0 PP Go.Proofs.Try.f24):=by
 intros a0_0 a0_1 a0_2 a1 H
 unfold f
 try simp only [j0_eq rec k,-eq_self]
 kernel_rfl
theorem call (k:Nat):∀ a0_0 a0_1 a0_2 a1 H,callF PP orc (k + 1) impl_NarrowRules.id [.agg [.int .i64 a0_0,.sl 1 a0_1,.sl 3 a0_2],.sl 1 a1] H=f (callF PP orc k) k a0_0 a0_1 a0_2 a1 H:=by
 intros a0_0 a0_1 a0_2 a1 H
 rw [callF_at (fn:=Go.Proofs.Try.f24) (c:=body) Go.Proofs.Try.func24 (by kernel_rfl) (Nat.le_of_ble_eq_true (by kernel_rfl)),f_eq]
 kernel_rfl
end impl_NarrowRules
namespace impl_NarrowBy
noncomputable def body:Code:=(Go.Proofs.Try.f44).body.getD .skip
noncomputable def f (rec:Rec) (k:Nat) (a0_0:Int) (a0_1:Sl) (a0_2:Sl) (a1:Sl) (a2:Int) (H:Hp):An:=(rec impl_PuzzleValid.id [.agg [.int .i64 a0_0,.sl 1 a0_1,.sl 3 a0_2]] H).bind fun r1=>r1.1.toB.bind fun b2=>bif !b2 then some (.sl 1 Sl.none,r1.2) else bif a2 == 1 then (rec impl_NarrowSingles.id [.sl 1 a1,.int .i64 a0_0] r1.2).bind fun r3=>(r3.1.toS 1).bind fun s4=>some (.sl 1 s4,r3.2) else bif a2 == 2 then (rec impl_NarrowHidden.id [.sl 1 a1,.int .i64 a0_0] r1.2).bind fun r5=>(r5.1.toS 1).bind fun s6=>some (.sl 1 s6,r5.2) else bif a2 == 3 then (rec impl_NarrowPairs.id [.sl 1 a1,.int .i64 a0_0] r1.2).bind fun r7=>(r7.1.toS 1).bind fun s8=>some (.sl 1 s8,r7.2) else bif a2 == 4 then (rec impl_NarrowRules.id [.agg [.int .i64 a0_0,.sl 1 a0_1,.sl 3 a0_2],.sl 1 a1] r1.2).bind fun r9=>(r9.1.toS 1).bind fun s10=>some (.sl 1 s10,r9.2) else some (.sl 1 Sl.none,r1.2)
theorem f_eq (rec:Rec) (k:Nat):∀ a0_0 a0_1 a0_2 a1 a2 H,f rec k a0_0 a0_1 a0_2 a1 a2 H=ex PP (orc impl_NarrowBy.id) rec k body (St.of 34 [(0,.agg [.int .i64 a0_0,.sl 1 a0_1,.sl 3 a0_2]),(1,.sl 1 a1),(2,.int .i64 a2)] []) H (K0 PP Go.Proofs.Try.f44):=by
 intros a0_0 a0_1 a0_2 a1 a2 H
 unfold f
 kernel_rfl
theorem call (k:Nat):∀ a0_0 a0_1 a0_2 a1 a2 H,callF PP orc (k + 1) impl_NarrowBy.id [.agg [.int .i64 a0_0,.sl 1 a0_1,.sl 3 a0_2],.sl 1 a1,.int .i64 a2] H=f (callF PP orc k) k a0_0 a0_1 a0_2 a1 a2 H:=by
 intros a0_0 a0_1 a0_2 a1 a2 H
 rw [callF_at (fn:=Go.Proofs.Try.f44) (c:=body) Go.Proofs.Try.func44 (by kernel_rfl) (Nat.le_of_ble_eq_true (by kernel_rfl)),f_eq]
 kernel_rfl
end impl_NarrowBy

namespace impl_StartMasks
noncomputable def body:Code:=(Go.Proofs.Try.f31).body.getD .skip
abbrev o:=orc impl_StartMasks.id
noncomputable def j1 (rec:Rec) (k:Nat) (L0:Sl→Sl→Int→Int→Int→Sl→Sl→Hp→An) (x3:Sl) (x14:Sl) (x15:Int) (x16:Int) (y1_0:Int) (y1_1:Sl) (y1_2:Sl) (H:Hp):An:=L0 x3 x14 x15 (IntKind.i64.wrap (x16 + 1)) y1_0 y1_1 y1_2 H
noncomputable def j2 (rec:Rec) (k:Nat) (x3:Sl) (H:Hp):An:=some (.sl 1 x3,H)
noncomputable def l0 (rec:Rec) (k:Nat):Nat→Sl→Sl→Int→Int→Int→Sl→Sl→Hp→An
 | 0,_,_,_,_,_,_,_,_=>none
 | n + 1,x3,x14,x15,x16,y1_0,y1_1,y1_2,H=>bif decide (x16 < x15) then bif decide (0 ≤ (x16:Int)) && decide ((x16:Int) < x14.len) then (ldI .i64 H x14.blk (x14.off + (x16:Int).toNat * 1)).bind fun n3=>(rec impl_allValues.id [.int .i64 y1_0] H).bind fun r4=>(r4.1.toI .i64).bind fun n5=>bif decide (0 ≤ (x16:Int)) && decide ((x16:Int) < x3.len) then (r4.2.sto x3.blk (x3.off + (x16:Int).toNat * 1) [.int .i64 n5]).bind fun H6=>bif decide (n3 > 0) then if (n3:Int) < 0 then none else bif decide (0 ≤ (x16:Int)) && decide ((x16:Int) < x3.len) then (H6.sto x3.blk (x3.off + (x16:Int).toNat * 1) [.int .i64 (IntKind.i64.wrap (1 * 2 ^ (min (n3:Int).toNat IntKind.i64.bits)))]).bind fun H7=>j1 rec k (l0 rec k n) x3 x14 x15 x16 y1_0 y1_1 y1_2 H7 else none else j1 rec k (l0 rec k n) x3 x14 x15 x16 y1_0 y1_1 y1_2 H6 else none else none else j2 rec k x3 H
noncomputable def f (rec:Rec) (k:Nat) (a0_0:Int) (a0_1:Sl) (a0_2:Sl) (H:Hp):An:=(rec impl_PuzzleValid.id [.agg [.int .i64 a0_0,.sl 1 a0_1,.sl 3 a0_2]] H).bind fun r1=>r1.1.toB.bind fun b2=>bif !b2 then some (.sl 1 Sl.none,r1.2) else if 0 ≤ ((a0_1.len:Int):Int)∧((a0_1.len:Int):Int) ≤ (a0_1.len:Int)∧((a0_1.len:Int):Int) ≤ 1073741824∧8 ≤ 8192∧0 < 1 then l0 rec k k (Sl.mk false r1.2.length 0 ((a0_1.len:Int):Int).toNat) a0_1 (a0_1.len:Int) 0 a0_0 a0_1 a0_2 (r1.2 ++ [some (Blk.mk false (List.replicate ((a0_1.len:Int):Int).toNat [.int .i64 0]).flatten)]) else none
theorem j1_eq (rec:Rec) (k:Nat) (n0:Nat) (L0:Sl→Sl→Int→Int→Int→Sl→Sl→Hp→An) (hL0:∀ x3 x14 x15 x16 y1_0 y1_1 y1_2 H,L0 x3 x14 x15 x16 y1_0 y1_1 y1_2 H=iter (o.at (lbody (sub body [1,1,1,0,1,0]))) (ex PP o rec k (lbody (sub body [1,1,1,0,1,0]))) (kAt PP o rec k body [1,1,1,0,1,0] [] (K0 PP Go.Proofs.Try.f31)) n0 (St.of 36 [(1,.lp 1 0),(3,.sl 1 x3),(14,.sl 1 x14),(15,.int .i64 x15),(16,.int .i64 x16)] [(1,[.int .i64 y1_0,.sl 1 y1_1,.sl 3 y1_2])]) H):∀ x3 x14 x15 x16 y1_0 y1_1 y1_2 H,j1 rec k L0 x3 x14 x15 x16 y1_0 y1_1 y1_2 H=ex PP o rec k (sub body [1,1,1,0,1,0,0,1,1,1]) (St.of 36 [(1,.lp 1 0),(3,.sl 1 x3),(14,.sl 1 x14),(15,.int .i64 x15),(16,.int .i64 x16)] [(1,[.int .i64 y1_0,.sl 1 y1_1,.sl 3 y1_2])]) H (kAt PP o rec k body [1,1,1,0,1,0,0,1,1,1] [n0] (K0 PP Go.Proofs.Try.f31)):=by
 intros x3 x14 x15 x16 y1_0 y1_1 y1_2 H
 unfold j1
 try simp only [hL0,-eq_self]
 kernel_rfl
theorem j2_eq (rec:Rec) (k:Nat):∀ x3 H,j2 rec k x3 H=ex PP o rec k (sub body [1,1,1,1]) (St.of 36 [(3,.sl 1 x3)] []) H (kAt PP o rec k body [1,1,1,1] [] (K0 PP Go.Proofs.Try.f31)):=by
 intros x3 H
 unfold j2
 kernel_rfl
theorem l0_eq (rec:Rec) (k:Nat):∀ n x3 x14 x15 x16 y1_0 y1_1 y1_2 H,l0 rec k n x3 x14 x15 x16 y1_0 y1_1 y1_2 H=iter (o.at (lbody (sub body [1,1,1,0,1,0]))) (ex PP o rec k (lbody (sub body [1,1,1,0,1,0]))) (kAt PP o rec k body [1,1,1,0,1,0] [] (K0 PP Go.Proofs.Try.f31)) n (St.of 36 [(1,.lp 1 0),(3,.sl 1 x3),(14,.sl 1 x14),(15,.int .i64 x15),(16,.int .i64 x16)] [(1,[.int .i64 y1_0,.sl 1 y1_1,.sl 3 y1_2])]) H:=by
 intro n
 induction n with
 | zero=>intros; rfl
 | succ n ih=>
  intros x3 x14 x15 x16 y1_0 y1_1 y1_2 H
  simp only [l0,j1_eq rec k n (l0 rec k n) (fun x3 x14 x15 x16 y1_0 y1_1 y1_2 H=>ih x3 x14 x15 x16 y1_0 y1_1 y1_2 H),j2_eq rec k,ih,-eq_self]
  kernel_rfl
theorem f_eq (rec:Rec) (k:Nat):∀ a0_0 a0_1 a0_2 H,f rec k a0_0 a0_1 a0_2 H=ex PP o rec k body (St.of 36 [(0,.agg [.int .i64 a0_0,.sl 1 a0_1,.sl 3 a0_2])] []) H (K0 PP Go.Proofs.Try.f31):=by
 intros a0_0 a0_1 a0_2 H
 unfold f
 try simp only [l0_eq rec k,-eq_self]
 kernel_rfl
theorem call (k:Nat):∀ a0_0 a0_1 a0_2 H,callF PP orc (k + 1) impl_StartMasks.id [.agg [.int .i64 a0_0,.sl 1 a0_1,.sl 3 a0_2]] H=f (callF PP orc k) k a0_0 a0_1 a0_2 H:=by
 intros a0_0 a0_1 a0_2 H
 rw [callF_at (fn:=Go.Proofs.Try.f31) (c:=body) Go.Proofs.Try.func31 (by kernel_rfl) (Nat.le_of_ble_eq_true (by kernel_rfl)),f_eq]
 kernel_rfl
end impl_StartMasks
namespace impl_nextRound
noncomputable def body:Code:=(Go.Proofs.Try.f73).body.getD .skip
abbrev o:=orc impl_nextRound.id
noncomputable def j1 (rec:Rec) (k:Nat) (H:Hp):An:=some (.tup [.sl 1 Sl.none,.int .i64 0],H)
noncomputable def l0 (rec:Rec) (k:Nat):Nat→Sl→Int→Int→Int→Sl→Sl→Hp→An
 | 0,_,_,_,_,_,_,_=>none
 | n + 1,x1,x2,x8,y3_0,y3_1,y3_2,H=>bif decide (x8 ≤ x2) then (rec impl_NarrowBy.id [.agg [.int .i64 y3_0,.sl 1 y3_1,.sl 3 y3_2],.sl 1 x1,.int .i64 x8] H).bind fun r1=>(r1.1.toS 1).bind fun s2=>(rec slices_Equal_int.id [.sl 1 s2,.sl 1 x1] r1.2).bind fun r3=>r3.1.toB.bind fun b4=>bif !b4 then some (.tup [.sl 1 s2,.int .i64 x8],r3.2) else (l0 rec k n) x1 x2 (IntKind.i64.wrap (x8 + 1)) y3_0 y3_1 y3_2 r3.2 else j1 rec k H
noncomputable def f (rec:Rec) (k:Nat) (a0_0:Int) (a0_1:Sl) (a0_2:Sl) (a1:Sl) (a2:Int) (H:Hp):An:=l0 rec k k a1 a2 1 a0_0 a0_1 a0_2 H
theorem j1_eq (rec:Rec) (k:Nat):∀ H,j1 rec k H=ex PP o rec k (sub body [1,1]) (St.of 25 [] []) H (kAt PP o rec k body [1,1] [] (K0 PP Go.Proofs.Try.f73)):=by
 intros H
 unfold j1
 kernel_rfl
theorem l0_eq (rec:Rec) (k:Nat):∀ n x1 x2 x8 y3_0 y3_1 y3_2 H,l0 rec k n x1 x2 x8 y3_0 y3_1 y3_2 H=iter (o.at (lbody (sub body [1,0,1,0]))) (ex PP o rec k (lbody (sub body [1,0,1,0]))) (kAt PP o rec k body [1,0,1,0] [] (K0 PP Go.Proofs.Try.f73)) n (St.of 25 [(1,.sl 1 x1),(2,.int .i64 x2),(3,.lp 3 0),(8,.int .i64 x8)] [(3,[.int .i64 y3_0,.sl 1 y3_1,.sl 3 y3_2])]) H:=by
 intro n
 induction n with
 | zero=>intros; rfl
 | succ n ih=>
  intros x1 x2 x8 y3_0 y3_1 y3_2 H
  simp only [l0,j1_eq rec k,ih,-eq_self]
  kernel_rfl
theorem f_eq (rec:Rec) (k:Nat):∀ a0_0 a0_1 a0_2 a1 a2 H,f rec k a0_0 a0_1 a0_2 a1 a2 H=ex PP o rec k body (St.of 25 [(0,.agg [.int .i64 a0_0,.sl 1 a0_1,.sl 3 a0_2]),(1,.sl 1 a1),(2,.int .i64 a2)] []) H (K0 PP Go.Proofs.Try.f73):=by
 intros a0_0 a0_1 a0_2 a1 a2 H
 unfold f
 try simp only [l0_eq rec k,-eq_self]
 kernel_rfl
theorem call (k:Nat):∀ a0_0 a0_1 a0_2 a1 a2 H,callF PP orc (k + 1) impl_nextRound.id [.agg [.int .i64 a0_0,.sl 1 a0_1,.sl 3 a0_2],.sl 1 a1,.int .i64 a2] H=f (callF PP orc k) k a0_0 a0_1 a0_2 a1 a2 H:=by
 intros a0_0 a0_1 a0_2 a1 a2 H
 rw [callF_at (fn:=Go.Proofs.Try.f73) (c:=body) Go.Proofs.Try.func73 (by kernel_rfl) (Nat.le_of_ble_eq_true (by kernel_rfl)),f_eq]
 kernel_rfl
end impl_nextRound
namespace impl_NarrowAll
noncomputable def body:Code:=(Go.Proofs.Try.f33).body.getD .skip
abbrev o:=orc impl_NarrowAll.id
noncomputable def l2 (rec:Rec) (k:Nat):Nat→Int→Sl→Int→Int→Sl→Sl→Hp→An
 | 0,_,_,_,_,_,_,_=>none
 | n + 1,x2,x8,x9,y3_0,y3_1,y3_2,H=>(rec impl_nextRound.id [.agg [.int .i64 y3_0,.sl 1 y3_1,.sl 3 y3_2],.sl 1 x8,.int .i64 x2] H).bind fun r7=>bif r7.1.isTup 2 then ((r7.1.nth 0).toS 1).bind fun s8=>((r7.1.nth 1).toI .i64).bind fun n9=>bif n9 == 0 then some (.tup [.sl 1 x8,.int .i64 x9],r7.2) else (l2 rec k n) x2 s8 (IntKind.i64.wrap (x9 + 1)) y3_0 y3_1 y3_2 r7.2 else none
noncomputable def j1 (rec:Rec) (k:Nat) (x1:Sl) (x2:Int) (y3_0:Int) (y3_1:Sl) (y3_2:Sl) (H:Hp):An:=(rec slices_Clone_int.id [.sl 1 x1] H).bind fun r5=>(r5.1.toS 1).bind fun s6=>l2 rec k k x2 s6 0 y3_0 y3_1 y3_2 r5.2
noncomputable def j0 (rec:Rec) (k:Nat) (x1:Sl) (x2:Int) (x29:Bool) (y3_0:Int) (y3_1:Sl) (y3_2:Sl) (H:Hp):An:=bif x29 then some (.tup [.sl 1 Sl.none,.int .i64 (-1)],H) else j1 rec k x1 x2 y3_0 y3_1 y3_2 H
noncomputable def f (rec:Rec) (k:Nat) (a0_0:Int) (a0_1:Sl) (a0_2:Sl) (a1:Sl) (a2:Int) (H:Hp):An:=(rec impl_PuzzleValid.id [.agg [.int .i64 a0_0,.sl 1 a0_1,.sl 3 a0_2]] H).bind fun r1=>r1.1.toB.bind fun b2=>bif !b2 then j0 rec k a1 a2 true a0_0 a0_1 a0_2 r1.2 else (rec impl_MasksValid.id [.sl 1 a1,.int .i64 a0_0] r1.2).bind fun r3=>r3.1.toB.bind fun b4=>bif !b4 then j0 rec k a1 a2 true a0_0 a0_1 a0_2 r3.2 else bif decide (a2 < 1) then j0 rec k a1 a2 true a0_0 a0_1 a0_2 r3.2 else j0 rec k a1 a2 (decide (a2 > 4)) a0_0 a0_1 a0_2 r3.2
theorem l2_eq (rec:Rec) (k:Nat):∀ n x2 x8 x9 y3_0 y3_1 y3_2 H,l2 rec k n x2 x8 x9 y3_0 y3_1 y3_2 H=iter (o.at (lbody (sub body [1,1,1,1,0]))) (ex PP o rec k (lbody (sub body [1,1,1,1,0]))) (kAt PP o rec k body [1,1,1,1,0] [] (K0 PP Go.Proofs.Try.f33)) n (St.of 46 [(2,.int .i64 x2),(3,.lp 3 0),(8,.sl 1 x8),(9,.int .i64 x9)] [(3,[.int .i64 y3_0,.sl 1 y3_1,.sl 3 y3_2])]) H:=by
 intro n
 induction n with
 | zero=>intros; rfl
 | succ n ih=>
  intros x2 x8 x9 y3_0 y3_1 y3_2 H
  simp only [l2,ih,-eq_self]
  kernel_rfl
theorem j1_eq (rec:Rec) (k:Nat):∀ x1 x2 y3_0 y3_1 y3_2 H,j1 rec k x1 x2 y3_0 y3_1 y3_2 H=ex PP o rec k (sub body [1,1]) (St.of 46 [(1,.sl 1 x1),(2,.int .i64 x2),(3,.lp 3 0)] [(3,[.int .i64 y3_0,.sl 1 y3_1,.sl 3 y3_2])]) H (kAt PP o rec k body [1,1] [] (K0 PP Go.Proofs.Try.f33)):=by
 intros x1 x2 y3_0 y3_1 y3_2 H
 unfold j1
 try simp only [l2_eq rec k,-eq_self]
 kernel_rfl
theorem j0_eq (rec:Rec) (k:Nat):∀ x1 x2 x29 y3_0 y3_1 y3_2 H,j0 rec k x1 x2 x29 y3_0 y3_1 y3_2 H=ex PP o rec k (sub body [1,0,1]) (St.of 46 [(1,.sl 1 x1),(2,.int .i64 x2),(3,.lp 3 0),(29,.bool x29)] [(3,[.int .i64 y3_0,.sl 1 y3_1,.sl 3 y3_2])]) H (kAt PP o rec k body [1,0,1] [] (K0 PP Go.Proofs.Try.f33)):=by
 intros x1 x2 x29 y3_0 y3_1 y3_2 H
 unfold j0
 try simp only [j1_eq rec k,-eq_self]
 kernel_rfl
theorem f_eq (rec:Rec) (k:Nat):∀ a0_0 a0_1 a0_2 a1 a2 H,f rec k a0_0 a0_1 a0_2 a1 a2 H=ex PP o rec k body (St.of 46 [(0,.agg [.int .i64 a0_0,.sl 1 a0_1,.sl 3 a0_2]),(1,.sl 1 a1),(2,.int .i64 a2)] []) H (K0 PP Go.Proofs.Try.f33):=by
 intros a0_0 a0_1 a0_2 a1 a2 H
 unfold f
 try simp only [j0_eq rec k,-eq_self]
 kernel_rfl
theorem call (k:Nat):∀ a0_0 a0_1 a0_2 a1 a2 H,callF PP orc (k + 1) impl_NarrowAll.id [.agg [.int .i64 a0_0,.sl 1 a0_1,.sl 3 a0_2],.sl 1 a1,.int .i64 a2] H=f (callF PP orc k) k a0_0 a0_1 a0_2 a1 a2 H:=by
 intros a0_0 a0_1 a0_2 a1 a2 H
 rw [callF_at (fn:=Go.Proofs.Try.f33) (c:=body) Go.Proofs.Try.func33 (by kernel_rfl) (Nat.le_of_ble_eq_true (by kernel_rfl)),f_eq]
 kernel_rfl
end impl_NarrowAll
namespace impl_SolveSteps
noncomputable def body:Code:=(Go.Proofs.Try.f36).body.getD .skip
abbrev o:=orc impl_SolveSteps.id
noncomputable def l2 (rec:Rec) (k:Nat):Nat→Int→Sl→Sl→Int→Sl→Sl→Hp→An
 | 0,_,_,_,_,_,_,_=>none
 | n + 1,x1,x5,x6,y2_0,y2_1,y2_2,H=>(rec impl_nextRound.id [.agg [.int .i64 y2_0,.sl 1 y2_1,.sl 3 y2_2],.sl 1 x6,.int .i64 x1] H).bind fun r5=>bif r5.1.isTup 2 then ((r5.1.nth 0).toS 1).bind fun s6=>((r5.1.nth 1).toI .i64).bind fun n7=>bif n7 == 0 then some (.sl 2 x5,r5.2) else (rec impl_MasksCount.id [.sl 1 s6,.int .i64 y2_0] r5.2).bind fun r8=>(r8.1.toI .i64).bind fun n9=>(r8.2.app 2 x5 1 [.int .i64 n7,.int .i64 n9]).bind fun w10=>(l2 rec k n) x1 w10.1 s6 y2_0 y2_1 y2_2 w10.2 else none
noncomputable def j1 (rec:Rec) (k:Nat) (x1:Int) (y2_0:Int) (y2_1:Sl) (y2_2:Sl) (H:Hp):An:=(rec impl_StartMasks.id [.agg [.int .i64 y2_0,.sl 1 y2_1,.sl 3 y2_2]] (H ++ [some (Blk.mk false [])])).bind fun r3=>(r3.1.toS 1).bind fun s4=>l2 rec k k x1 (Sl.mk false H.length 0 0) s4 y2_0 y2_1 y2_2 r3.2
noncomputable def j0 (rec:Rec) (k:Nat) (x1:Int) (x19:Bool) (y2_0:Int) (y2_1:Sl) (y2_2:Sl) (H:Hp):An:=bif x19 then some (.sl 2 Sl.none,H) else j1 rec k x1 y2_0 y2_1 y2_2 H
noncomputable def f (rec:Rec) (k:Nat) (a0_0:Int) (a0_1:Sl) (a0_2:Sl) (a1:Int) (H:Hp):An:=(rec impl_PuzzleValid.id [.agg [.int .i64 a0_0,.sl 1 a0_1,.sl 3 a0_2]] H).bind fun r1=>r1.1.toB.bind fun b2=>bif !b2 then j0 rec k a1 true a0_0 a0_1 a0_2 r1.2 else bif decide (a1 < 1) then j0 rec k a1 true a0_0 a0_1 a0_2 r1.2 else j0 rec k a1 (decide (a1 > 4)) a0_0 a0_1 a0_2 r1.2
theorem l2_eq (rec:Rec) (k:Nat):∀ n x1 x5 x6 y2_0 y2_1 y2_2 H,l2 rec k n x1 x5 x6 y2_0 y2_1 y2_2 H=iter (o.at (lbody (sub body [1,1,1,1,0]))) (ex PP o rec k (lbody (sub body [1,1,1,1,0]))) (kAt PP o rec k body [1,1,1,1,0] [] (K0 PP Go.Proofs.Try.f36)) n (St.of 43 [(1,.int .i64 x1),(2,.lp 2 0),(5,.sl 2 x5),(6,.sl 1 x6)] [(2,[.int .i64 y2_0,.sl 1 y2_1,.sl 3 y2_2])]) H:=by
 intro n
 induction n with
 | zero=>intros; rfl
 | succ n ih=>
  intros x1 x5 x6 y2_0 y2_1 y2_2 H
  simp only [l2,ih,-eq_self]
  kernel_rfl
theorem j1_eq (rec:Rec) (k:Nat):∀ x1 y2_0 y2_1 y2_2 H,j1 rec k x1 y2_0 y2_1 y2_2 H=ex PP o rec k (sub body [1,1]) (St.of 43 [(1,.int .i64 x1),(2,.lp 2 0)] [(2,[.int .i64 y2_0,.sl 1 y2_1,.sl 3 y2_2])]) H (kAt PP o rec k body [1,1] [] (K0 PP Go.Proofs.Try.f36)):=by
 intros x1 y2_0 y2_1 y2_2 H
 unfold j1
 try simp only [l2_eq rec k,-eq_self]
 kernel_rfl
theorem j0_eq (rec:Rec) (k:Nat):∀ x1 x19 y2_0 y2_1 y2_2 H,j0 rec k x1 x19 y2_0 y2_1 y2_2 H=ex PP o rec k (sub body [1,0,1]) (St.of 43 [(1,.int .i64 x1),(2,.lp 2 0),(19,.bool x19)] [(2,[.int .i64 y2_0,.sl 1 y2_1,.sl 3 y2_2])]) H (kAt PP o rec k body [1,0,1] [] (K0 PP Go.Proofs.Try.f36)):=by
 intros x1 x19 y2_0 y2_1 y2_2 H
 unfold j0
 try simp only [j1_eq rec k,-eq_self]
 kernel_rfl
theorem f_eq (rec:Rec) (k:Nat):∀ a0_0 a0_1 a0_2 a1 H,f rec k a0_0 a0_1 a0_2 a1 H=ex PP o rec k body (St.of 43 [(0,.agg [.int .i64 a0_0,.sl 1 a0_1,.sl 3 a0_2]),(1,.int .i64 a1)] []) H (K0 PP Go.Proofs.Try.f36):=by
 intros a0_0 a0_1 a0_2 a1 H
 unfold f
 try simp only [j0_eq rec k,-eq_self]
 kernel_rfl
theorem call (k:Nat):∀ a0_0 a0_1 a0_2 a1 H,callF PP orc (k + 1) impl_SolveSteps.id [.agg [.int .i64 a0_0,.sl 1 a0_1,.sl 3 a0_2],.int .i64 a1] H=f (callF PP orc k) k a0_0 a0_1 a0_2 a1 H:=by
 intros a0_0 a0_1 a0_2 a1 H
 rw [callF_at (fn:=Go.Proofs.Try.f36) (c:=body) Go.Proofs.Try.func36 (by kernel_rfl) (Nat.le_of_ble_eq_true (by kernel_rfl)),f_eq]
 kernel_rfl
end impl_SolveSteps
namespace spec_SolveSteps
noncomputable def body:Code:=(Go.Proofs.Try.f37).body.getD .skip
abbrev o:=orc spec_SolveSteps.id
noncomputable def j3 (rec:Rec) (k:Nat) (x5:Sl) (H:Hp):An:=some (.sl 2 x5,H)
noncomputable def l2 (rec:Rec) (k:Nat):Nat→Int→Sl→Sl→Int→Int→Sl→Sl→Hp→An
 | 0,_,_,_,_,_,_,_,_=>none
 | n + 1,x1,x5,x6,x7,y2_0,y2_1,y2_2,H=>bif decide (x7 ≤ x1) then (rec spec_NarrowBy.id [.agg [.int .i64 y2_0,.sl 1 y2_1,.sl 3 y2_2],.sl 1 x6,.int .i64 x7] H).bind fun r7=>(r7.1.toS 1).bind fun s8=>(rec spec_l8Same.id [.sl 1 s8,.sl 1 x6] r7.2).bind fun r9=>r9.1.toB.bind fun b10=>bif b10 then (l2 rec k n) x1 x5 x6 (IntKind.i64.wrap (x7 + 1)) y2_0 y2_1 y2_2 r9.2 else (rec spec_MasksCount.id [.sl 1 s8,.int .i64 y2_0] r9.2).bind fun r11=>(r11.1.toI .i64).bind fun n12=>(r11.2.app 2 x5 1 [.int .i64 x7,.int .i64 n12]).bind fun w13=>(l2 rec k n) x1 w13.1 s8 1 y2_0 y2_1 y2_2 w13.2 else j3 rec k x5 H
noncomputable def j1 (rec:Rec) (k:Nat) (x1:Int) (x5:Sl) (y2_0:Int) (y2_1:Sl) (y2_2:Sl) (H:Hp):An:=(rec spec_StartMasks.id [.agg [.int .i64 y2_0,.sl 1 y2_1,.sl 3 y2_2]] H).bind fun r5=>(r5.1.toS 1).bind fun s6=>l2 rec k k x1 x5 s6 1 y2_0 y2_1 y2_2 r5.2
noncomputable def j0 (rec:Rec) (k:Nat) (x1:Int) (x5:Sl) (x17:Bool) (y2_0:Int) (y2_1:Sl) (y2_2:Sl) (H:Hp):An:=bif x17 then some (.sl 2 x5,H) else j1 rec k x1 x5 y2_0 y2_1 y2_2 H
noncomputable def f (rec:Rec) (k:Nat) (a0_0:Int) (a0_1:Sl) (a0_2:Sl) (a1:Int) (H:Hp):An:=(rec spec_PuzzleValid.id [.agg [.int .i64 a0_0,.sl 1 a0_1,.sl 3 a0_2]] (H ++ [some (Blk.mk false [])])).bind fun r1=>r1.1.toB.bind fun b2=>bif !b2 then j0 rec k a1 (Sl.mk false H.length 0 0) true a0_0 a0_1 a0_2 r1.2 else (rec spec_l1In.id [.int .i64 a1,.int .i64 1,.int .i64 4] r1.2).bind fun r3=>r3.1.toB.bind fun b4=>j0 rec k a1 (Sl.mk false H.length 0 0) (!b4) a0_0 a0_1 a0_2 r3.2
theorem j3_eq (rec:Rec) (k:Nat):∀ x5 H,j3 rec k x5 H=ex PP o rec k (sub body [1,1,1,1,1]) (St.of 44 [(5,.sl 2 x5)] []) H (kAt PP o rec k body [1,1,1,1,1] [] (K0 PP Go.Proofs.Try.f37)):=by
 intros x5 H
 simp only [j3,-eq_self]
 kernel_rfl
theorem l2_eq (rec:Rec) (k:Nat):∀ n x1 x5 x6 x7 y2_0 y2_1 y2_2 H,l2 rec k n x1 x5 x6 x7 y2_0 y2_1 y2_2 H=iter (o.at (lbody (sub body [1,1,1,1,0,1,0]))) (ex PP o rec k (lbody (sub body [1,1,1,1,0,1,0]))) (kAt PP o rec k body [1,1,1,1,0,1,0] [] (K0 PP Go.Proofs.Try.f37)) n (St.of 44 [(1,.int .i64 x1),(2,.lp 2 0),(5,.sl 2 x5),(6,.sl 1 x6),(7,.int .i64 x7)] [(2,[.int .i64 y2_0,.sl 1 y2_1,.sl 3 y2_2])]) H:=by
 intro n
 induction n with
 | zero=>intros; rfl
 | succ n ih=>
  intros x1 x5 x6 x7 y2_0 y2_1 y2_2 H
  simp only [l2,j3,ih,-eq_self]
  kernel_rfl
theorem j1_eq (rec:Rec) (k:Nat):∀ x1 x5 y2_0 y2_1 y2_2 H,j1 rec k x1 x5 y2_0 y2_1 y2_2 H=ex PP o rec k (sub body [1,1,1]) (St.of 44 [(1,.int .i64 x1),(2,.lp 2 0),(5,.sl 2 x5)] [(2,[.int .i64 y2_0,.sl 1 y2_1,.sl 3 y2_2])]) H (kAt PP o rec k body [1,1,1] [] (K0 PP Go.Proofs.Try.f37)):=by
 intros x1 x5 y2_0 y2_1 y2_2 H
 simp only [j1,l2_eq rec k,-eq_self]
 kernel_rfl
theorem j0_eq (rec:Rec) (k:Nat):∀ x1 x5 x17 y2_0 y2_1 y2_2 H,j0 rec k x1 x5 x17 y2_0 y2_1 y2_2 H=ex PP o rec k (sub body [1,1,0,1]) (St.of 44 [(1,.int .i64 x1),(2,.lp 2 0),(5,.sl 2 x5),(17,.bool x17)] [(2,[.int .i64 y2_0,.sl 1 y2_1,.sl 3 y2_2])]) H (kAt PP o rec k body [1,1,0,1] [] (K0 PP Go.Proofs.Try.f37)):=by
 intros x1 x5 x17 y2_0 y2_1 y2_2 H
 simp only [j0,j1,l2_eq rec k,-eq_self]
 kernel_rfl
theorem f_eq (rec:Rec) (k:Nat):∀ a0_0 a0_1 a0_2 a1 H,f rec k a0_0 a0_1 a0_2 a1 H=ex PP o rec k body (St.of 44 [(0,.agg [.int .i64 a0_0,.sl 1 a0_1,.sl 3 a0_2]),(1,.int .i64 a1)] []) H (K0 PP Go.Proofs.Try.f37):=by
 intros a0_0 a0_1 a0_2 a1 H
 simp only [f,j0,j1,l2_eq rec k,-eq_self]
 kernel_rfl
theorem call (k:Nat):∀ a0_0 a0_1 a0_2 a1 H,callF PP orc (k + 1) spec_SolveSteps.id [.agg [.int .i64 a0_0,.sl 1 a0_1,.sl 3 a0_2],.int .i64 a1] H=f (callF PP orc k) k a0_0 a0_1 a0_2 a1 H:=by
 intros a0_0 a0_1 a0_2 a1 H
 rw [callF_at (fn:=Go.Proofs.Try.f37) (c:=body) Go.Proofs.Try.func37 (by kernel_rfl) (Nat.le_of_ble_eq_true (by kernel_rfl)),f_eq]
 kernel_rfl
end spec_SolveSteps
namespace spec_DrawSolveSteps
noncomputable def body:Code:=(Go.Proofs.Try.f35).body.getD .skip
noncomputable def f (rec:Rec) (k:Nat) (a0:Sl) (H:Hp):An:=(rec spec_l20Open.id [.sl 1 a0] H).bind fun r1=>r1.1.toP.bind fun p2=>(rec spec_l20Puzzle.id [.ptr p2.1 p2.2,.int .i64 12] r1.2).bind fun r3=>bif r3.1.isAgg 3 then ((r3.1.cel 0).toI .i64).bind fun n4=>((r3.1.cel 1).toS 1).bind fun s5=>((r3.1.cel 2).toS 3).bind fun s6=>(rec spec_l20Rd_pick.id [.ptr p2.1 p2.2,.int .i64 4] r3.2).bind fun r7=>(r7.1.toI .i64).bind fun n8=>(rec spec_l20Rd_pick.id [.ptr p2.1 p2.2,.int .i64 7] r7.2).bind fun r9=>(r9.1.toI .i64).bind fun n10=>bif decide (0 ≤ (n10:Int)) && decide ((n10:Int) < ((7:Nat):Int)) then (([.int .i64 0,.int .i64 0,.int .i64 0,.int .i64 1,.int .i64 1,.int .i64 2,.int .i64 3]:List AV)[(n10:Int).toNat * 1]?).bind fun v11=>bif v11.cell then (v11.toI .i64).bind fun n12=>bif decide (0 ≤ (n12:Int)) && decide ((n12:Int) < ((4:Nat):Int)) then (([.int .i64 (IntKind.i64.wrap (1 + n8)),.int .i64 4,.int .i64 0,.int .i64 5]:List AV)[(n12:Int).toNat * 1]?).bind fun v13=>bif v13.cell then (v13.toI .i64).bind fun n14=>some (.tup [.agg [.int .i64 n4,.sl 1 s5,.sl 3 s6],.int .i64 n14],r9.2) else none else none else none else none else none
theorem f_eq (rec:Rec) (k:Nat):∀ a0 H,f rec k a0 H=ex PP (orc spec_DrawSolveSteps.id) rec k body (St.of 22 [(0,.sl 1 a0)] []) H (K0 PP Go.Proofs.Try.f35):=by
 intros a0 H
 unfold f
 kernel_rfl
theorem call (k:Nat):∀ a0 H,callF PP orc (k + 1) spec_DrawSolveSteps.id [.sl 1 a0] H=f (callF PP orc k) k a0 H:=by
 intros a0 H
 rw [callF_at (fn:=Go.Proofs.Try.f35) (c:=body) Go.Proofs.Try.func35 (by kernel_rfl) (Nat.le_of_ble_eq_true (by kernel_rfl)),f_eq]
 kernel_rfl
end spec_DrawSolveSteps
end Go.Proofs.Ytchliocobgkmbaa.Rp
