/- Texts for the row of the law FnNarrowBy, part 12: the plain machine, the program's functions on it, what they come to. No conditions. -/
import Derived.Test.YtjojhbdghhmeeaaAb
import Derived.Test.YtjojhbdghhmeeaaOr
set_option linter.unusedVariables false
set_option linter.unusedSimpArgs false
set_option maxRecDepth 100000
namespace Go.Proofs.Ytjojhbdghhmeeaa.Rp
open Go Go.Proofs.Ytjojhbdghhmeeaa.Ab
namespace impl_RuleMasks
noncomputable def body:Code:=(Go.Proofs.Try.f67).body.getD .skip
abbrev o:=orc impl_RuleMasks.id
noncomputable def j3 (rec:Rec) (k:Nat) (x7:Sl) (y3_0:Int) (y3_1:Sl) (y3_2:Int) (H:Hp):An:=(rec impl_ruleMasks.id [.agg [.int .i64 y3_0,.sl 1 y3_1,.int .i64 y3_2],.sl 1 x7] H).bind fun r8=>(r8.1.toS 1).bind fun s9=>some (.sl 1 s9,r8.2)
noncomputable def l2 (rec:Rec) (k:Nat):Nat→Sl→Sl→Sl→Int→Int→Int→Sl→Int→Hp→An
 | 0,_,_,_,_,_,_,_,_,_=>none
 | n + 1,x1,x7,x22,x23,x24,y3_0,y3_1,y3_2,H=>bif decide (x24 < x23) then bif decide (0 ≤ (x24:Int)) && decide ((x24:Int) < x22.len) then (ldI .i64 H x22.blk (x22.off + (x24:Int).toNat * 1)).bind fun n5=>bif decide (0 ≤ (n5:Int)) && decide ((n5:Int) < x1.len) then (ldI .i64 H x1.blk (x1.off + (n5:Int).toNat * 1)).bind fun n6=>(H.app 1 x7 1 [.int .i64 n6]).bind fun w7=>(l2 rec k n) x1 w7.1 x22 x23 (IntKind.i64.wrap (x24 + 1)) y3_0 y3_1 y3_2 w7.2 else none else none else j3 rec k x7 y3_0 y3_1 y3_2 H
noncomputable def j1 (rec:Rec) (k:Nat) (x1:Sl) (y3_0:Int) (y3_1:Sl) (y3_2:Int) (H:Hp):An:=l2 rec k k x1 (Sl.mk false H.length 0 0) y3_1 (y3_1.len:Int) 0 y3_0 y3_1 y3_2 (H ++ [some (Blk.mk false [])])
noncomputable def j0 (rec:Rec) (k:Nat) (x1:Sl) (x19:Bool) (y3_0:Int) (y3_1:Sl) (y3_2:Int) (H:Hp):An:=bif x19 then some (.sl 1 Sl.none,H) else j1 rec k x1 y3_0 y3_1 y3_2 H
noncomputable def f (rec:Rec) (k:Nat) (a0_0:Int) (a0_1:Sl) (a0_2:Int) (a1:Sl) (a2:Int) (H:Hp):An:=(rec impl_RuleValid.id [.agg [.int .i64 a0_0,.sl 1 a0_1,.int .i64 a0_2],.int .i64 a2] H).bind fun r1=>r1.1.toB.bind fun b2=>bif !b2 then j0 rec k a1 true a0_0 a0_1 a0_2 r1.2 else (rec impl_MasksValid.id [.sl 1 a1,.int .i64 a2] r1.2).bind fun r3=>r3.1.toB.bind fun b4=>j0 rec k a1 (!b4) a0_0 a0_1 a0_2 r3.2
theorem j3_eq (rec:Rec) (k:Nat):∀ x7 y3_0 y3_1 y3_2 H,j3 rec k x7 y3_0 y3_1 y3_2 H=ex PP o rec k (sub body [1,1,1,1]) (St.of 39 [(3,.lp 3 0),(7,.sl 1 x7)] [(3,[.int .i64 y3_0,.sl 1 y3_1,.int .i64 y3_2])]) H (kAt PP o rec k body [1,1,1,1] [] (K0 PP Go.Proofs.Try.f67)):=by
 intros x7 y3_0 y3_1 y3_2 H
 unfold j3
 kernel_rfl
theorem l2_eq (rec:Rec) (k:Nat):∀ n x1 x7 x22 x23 x24 y3_0 y3_1 y3_2 H,l2 rec k n x1 x7 x22 x23 x24 y3_0 y3_1 y3_2 H=iter (o.at (lbody (sub body [1,1,1,0,1,0]))) (ex PP o rec k (lbody (sub body [1,1,1,0,1,0]))) (kAt PP o rec k body [1,1,1,0,1,0] [] (K0 PP Go.Proofs.Try.f67)) n (St.of 39 [(1,.sl 1 x1),(3,.lp 3 0),(7,.sl 1 x7),(22,.sl 1 x22),(23,.int .i64 x23),(24,.int .i64 x24)] [(3,[.int .i64 y3_0,.sl 1 y3_1,.int .i64 y3_2])]) H:=by
 intro n
 induction n with
 | zero=>intros; rfl
 | succ n ih=>
  intros x1 x7 x22 x23 x24 y3_0 y3_1 y3_2 H
  simp only [l2,j3_eq rec k,ih,-eq_self]
  kernel_rfl
theorem j1_eq (rec:Rec) (k:Nat):∀ x1 y3_0 y3_1 y3_2 H,j1 rec k x1 y3_0 y3_1 y3_2 H=ex PP o rec k (sub body [1,1]) (St.of 39 [(1,.sl 1 x1),(3,.lp 3 0)] [(3,[.int .i64 y3_0,.sl 1 y3_1,.int .i64 y3_2])]) H (kAt PP o rec k body [1,1] [] (K0 PP Go.Proofs.Try.f67)):=by
 intros x1 y3_0 y3_1 y3_2 H
 unfold j1
 try simp only [l2_eq rec k,-eq_self]
 kernel_rfl
theorem j0_eq (rec:Rec) (k:Nat):∀ x1 x19 y3_0 y3_1 y3_2 H,j0 rec k x1 x19 y3_0 y3_1 y3_2 H=ex PP o rec k (sub body [1,0,1]) (St.of 39 [(1,.sl 1 x1),(3,.lp 3 0),(19,.bool x19)] [(3,[.int .i64 y3_0,.sl 1 y3_1,.int .i64 y3_2])]) H (kAt PP o rec k body [1,0,1] [] (K0 PP Go.Proofs.Try.f67)):=by
 intros x1 x19 y3_0 y3_1 y3_2 H
 unfold j0
 try simp only [j1_eq rec k,-eq_self]
 kernel_rfl
theorem f_eq (rec:Rec) (k:Nat):∀ a0_0 a0_1 a0_2 a1 a2 H,f rec k a0_0 a0_1 a0_2 a1 a2 H=ex PP o rec k body (St.of 39 [(0,.agg [.int .i64 a0_0,.sl 1 a0_1,.int .i64 a0_2]),(1,.sl 1 a1),(2,.int .i64 a2)] []) H (K0 PP Go.Proofs.Try.f67):=by
 intros a0_0 a0_1 a0_2 a1 a2 H
 unfold f
 try simp only [j0_eq rec k,-eq_self]
 kernel_rfl
theorem call (k:Nat):∀ a0_0 a0_1 a0_2 a1 a2 H,callF PP orc (k + 1) impl_RuleMasks.id [.agg [.int .i64 a0_0,.sl 1 a0_1,.int .i64 a0_2],.sl 1 a1,.int .i64 a2] H=f (callF PP orc k) k a0_0 a0_1 a0_2 a1 a2 H:=by
 intros a0_0 a0_1 a0_2 a1 a2 H
 rw [callF_at (fn:=Go.Proofs.Try.f67) (c:=body) Go.Proofs.Try.func67 (by kernel_rfl) (Nat.le_of_ble_eq_true (by kernel_rfl)),f_eq]
 kernel_rfl
end impl_RuleMasks
namespace impl_NarrowRules
noncomputable def body:Code:=(Go.Proofs.Try.f73).body.getD .skip
abbrev o:=orc impl_NarrowRules.id
abbrev TL2:=Sl→Sl→Int→Int→Int→Sl→Sl→Hp→An
abbrev PhL2 (rec:Rec) (k n2:Nat) (L2:TL2):Prop:=∀ x5 x23 x24 x25 y2_0 y2_1 y2_2 H,L2 x5 x23 x24 x25 y2_0 y2_1 y2_2 H=iter (o.at (lbody (sub body [1,1,1,0,1,0]))) (ex PP o rec k (lbody (sub body [1,1,1,0,1,0]))) (kAt PP o rec k body [1,1,1,0,1,0] [] (K0 PP Go.Proofs.Try.f73)) n2 (St.of 51 [(2,.lp 2 0),(5,.sl 1 x5),(23,.sl 3 x23),(24,.int .i64 x24),(25,.int .i64 x25)] [(2,[.int .i64 y2_0,.sl 1 y2_1,.sl 3 y2_2])]) H
noncomputable def j4 (rec:Rec) (k:Nat) (x5:Sl) (H:Hp):An:=some (.sl 1 x5,H)
noncomputable def j5 (rec:Rec) (k:Nat) (L2:TL2) (x5:Sl) (x23:Sl) (x24:Int) (x25:Int) (y2_0:Int) (y2_1:Sl) (y2_2:Sl) (H:Hp):An:=L2 x5 x23 x24 (IntKind.i64.wrap (x25 + 1)) y2_0 y2_1 y2_2 H
noncomputable def l3 (rec:Rec) (k:Nat) (L2:TL2):Nat→Sl→Sl→Int→Int→Sl→Int→Int→Int→Sl→Sl→Int→Sl→Int→Hp→An
 | 0,_,_,_,_,_,_,_,_,_,_,_,_,_,_=>none
 | n + 1,x5,x23,x24,x25,x33,x34,x35,y2_0,y2_1,y2_2,y7_0,y7_1,y7_2,H=>bif decide (x35 < x34) then bif decide (0 ≤ (x35:Int)) && decide ((x35:Int) < x33.len) then (ldI .i64 H x33.blk (x33.off + (x35:Int).toNat * 1)).bind fun n12=>bif decide (0 ≤ (x35:Int)) && decide ((x35:Int) < y7_1.len) then (ldI .i64 H y7_1.blk (y7_1.off + (x35:Int).toNat * 1)).bind fun n13=>bif decide (0 ≤ (n13:Int)) && decide ((n13:Int) < x5.len) then (H.sto x5.blk (x5.off + (n13:Int).toNat * 1) [.int .i64 n12]).bind fun H14=>(l3 rec k L2 n) x5 x23 x24 x25 x33 x34 (IntKind.i64.wrap (x35 + 1)) y2_0 y2_1 y2_2 y7_0 y7_1 y7_2 H14 else none else none else none else j5 rec k L2 x5 x23 x24 x25 y2_0 y2_1 y2_2 H
noncomputable def l2 (rec:Rec) (k:Nat):Nat→Sl→Sl→Int→Int→Int→Sl→Sl→Hp→An
 | 0,_,_,_,_,_,_,_,_=>none
 | n + 1,x5,x23,x24,x25,y2_0,y2_1,y2_2,H=>bif decide (x25 < x24) then bif decide (0 ≤ (x25:Int)) && decide ((x25:Int) < x23.len) then (ldI .i64 H x23.blk (x23.off + (x25:Int).toNat * 3)).bind fun n7=>(ldS 1 H x23.blk (x23.off + (x25:Int).toNat * 3 + 1)).bind fun s8=>(ldI .i64 H x23.blk (x23.off + (x25:Int).toNat * 3 + 1 + 1)).bind fun n9=>(rec impl_RuleMasks.id [.agg [.int .i64 n7,.sl 1 s8,.int .i64 n9],.sl 1 x5,.int .i64 y2_0] H).bind fun r10=>(r10.1.toS 1).bind fun s11=>l3 rec k (l2 rec k n) k x5 x23 x24 x25 s11 (s11.len:Int) 0 y2_0 y2_1 y2_2 n7 s8 n9 r10.2 else none else j4 rec k x5 H
noncomputable def j1 (rec:Rec) (k:Nat) (x1:Sl) (y2_0:Int) (y2_1:Sl) (y2_2:Sl) (H:Hp):An:=(rec slices_Clone_int.id [.sl 1 x1] H).bind fun r5=>(r5.1.toS 1).bind fun s6=>l2 rec k k s6 y2_2 (y2_2.len:Int) 0 y2_0 y2_1 y2_2 r5.2
noncomputable def j0 (rec:Rec) (k:Nat) (x1:Sl) (x19:Bool) (y2_0:Int) (y2_1:Sl) (y2_2:Sl) (H:Hp):An:=bif x19 then some (.sl 1 Sl.none,H) else j1 rec k x1 y2_0 y2_1 y2_2 H
noncomputable def f (rec:Rec) (k:Nat) (a0_0:Int) (a0_1:Sl) (a0_2:Sl) (a1:Sl) (H:Hp):An:=(rec impl_PuzzleValid.id [.agg [.int .i64 a0_0,.sl 1 a0_1,.sl 3 a0_2]] H).bind fun r1=>r1.1.toB.bind fun b2=>bif !b2 then j0 rec k a1 true a0_0 a0_1 a0_2 r1.2 else (rec impl_MasksValid.id [.sl 1 a1,.int .i64 a0_0] r1.2).bind fun r3=>r3.1.toB.bind fun b4=>j0 rec k a1 (!b4) a0_0 a0_1 a0_2 r3.2
theorem j4_eq (rec:Rec) (k:Nat):∀ x5 H,j4 rec k x5 H=ex PP o rec k (sub body [1,1,1,1]) (St.of 51 [(5,.sl 1 x5)] []) H (kAt PP o rec k body [1,1,1,1] [] (K0 PP Go.Proofs.Try.f73)):=by
 intros x5 H
 unfold j4
 kernel_rfl
theorem j5_eq (rec:Rec) (k:Nat) (n2:Nat) (L2:TL2) (hL2:PhL2 rec k n2 L2):∀ x5 x23 x24 x25 y2_0 y2_1 y2_2 H,j5 rec k L2 x5 x23 x24 x25 y2_0 y2_1 y2_2 H=ex PP o rec k (sub body [1,1,1,0,1,0,0,1,1,1]) (St.of 51 [(2,.lp 2 0),(5,.sl 1 x5),(23,.sl 3 x23),(24,.int .i64 x24),(25,.int .i64 x25)] [(2,[.int .i64 y2_0,.sl 1 y2_1,.sl 3 y2_2])]) H (kAt PP o rec k body [1,1,1,0,1,0,0,1,1,1] [n2] (K0 PP Go.Proofs.Try.f73)):=by
 intros x5 x23 x24 x25 y2_0 y2_1 y2_2 H
 unfold j5
 try simp only [hL2,-eq_self]
 kernel_rfl
theorem l3_eq (rec:Rec) (k:Nat) (n2:Nat) (L2:TL2) (hL2:PhL2 rec k n2 L2):∀ n x5 x23 x24 x25 x33 x34 x35 y2_0 y2_1 y2_2 y7_0 y7_1 y7_2 H,l3 rec k L2 n x5 x23 x24 x25 x33 x34 x35 y2_0 y2_1 y2_2 y7_0 y7_1 y7_2 H=iter (o.at (lbody (sub body [1,1,1,0,1,0,0,1,1,0,0,1,1,0]))) (ex PP o rec k (lbody (sub body [1,1,1,0,1,0,0,1,1,0,0,1,1,0]))) (kAt PP o rec k body [1,1,1,0,1,0,0,1,1,0,0,1,1,0] [n2] (K0 PP Go.Proofs.Try.f73)) n (St.of 51 [(2,.lp 2 0),(5,.sl 1 x5),(7,.lp 7 0),(23,.sl 3 x23),(24,.int .i64 x24),(25,.int .i64 x25),(33,.sl 1 x33),(34,.int .i64 x34),(35,.int .i64 x35)] [(2,[.int .i64 y2_0,.sl 1 y2_1,.sl 3 y2_2]),(7,[.int .i64 y7_0,.sl 1 y7_1,.int .i64 y7_2])]) H:=by
 intro n
 induction n with
 | zero=>intros; rfl
 | succ n ih=>
  intros x5 x23 x24 x25 x33 x34 x35 y2_0 y2_1 y2_2 y7_0 y7_1 y7_2 H
  simp only [l3,hL2,j5_eq rec k n2 L2 hL2,ih,-eq_self]
  kernel_rfl
theorem l2_eq (rec:Rec) (k:Nat):∀ n x5 x23 x24 x25 y2_0 y2_1 y2_2 H,l2 rec k n x5 x23 x24 x25 y2_0 y2_1 y2_2 H=iter (o.at (lbody (sub body [1,1,1,0,1,0]))) (ex PP o rec k (lbody (sub body [1,1,1,0,1,0]))) (kAt PP o rec k body [1,1,1,0,1,0] [] (K0 PP Go.Proofs.Try.f73)) n (St.of 51 [(2,.lp 2 0),(5,.sl 1 x5),(23,.sl 3 x23),(24,.int .i64 x24),(25,.int .i64 x25)] [(2,[.int .i64 y2_0,.sl 1 y2_1,.sl 3 y2_2])]) H:=by
 intro n
 induction n with
 | zero=>intros; rfl
 | succ n ih=>
  intros x5 x23 x24 x25 y2_0 y2_1 y2_2 H
  simp only [l2,l3_eq rec k n (l2 rec k n) (fun x5 x23 x24 x25 y2_0 y2_1 y2_2 H=>ih x5 x23 x24 x25 y2_0 y2_1 y2_2 H),j4_eq rec k,ih,-eq_self]
  kernel_rfl
theorem j1_eq (rec:Rec) (k:Nat):∀ x1 y2_0 y2_1 y2_2 H,j1 rec k x1 y2_0 y2_1 y2_2 H=ex PP o rec k (sub body [1,1]) (St.of 51 [(1,.sl 1 x1),(2,.lp 2 0)] [(2,[.int .i64 y2_0,.sl 1 y2_1,.sl 3 y2_2])]) H (kAt PP o rec k body [1,1] [] (K0 PP Go.Proofs.Try.f73)):=by
 intros x1 y2_0 y2_1 y2_2 H
 unfold j1
 try simp only [l2_eq rec k,-eq_self]
 kernel_rfl
theorem j0_eq (rec:Rec) (k:Nat):∀ x1 x19 y2_0 y2_1 y2_2 H,j0 rec k x1 x19 y2_0 y2_1 y2_2 H=ex PP o rec k (sub body [1,0,1]) (St.of 51 [(1,.sl 1 x1),(2,.lp 2 0),(19,.bool x19)] [(2,[.int .i64 y2_0,.sl 1 y2_1,.sl 3 y2_2])]) H (kAt PP o rec k body [1,0,1] [] (K0 PP Go.Proofs.Try.f73)):=by
 intros x1 x19 y2_0 y2_1 y2_2 H
 unfold j0
 try simp only [j1_eq rec k,-eq_self]
 kernel_rfl
theorem f_eq (rec:Rec) (k:Nat):∀ a0_0 a0_1 a0_2 a1 H,f rec k a0_0 a0_1 a0_2 a1 H=ex PP o rec k body (St.of 51 [(0,.agg [.int .i64 a0_0,.sl 1 a0_1,.sl 3 a0_2]),(1,.sl 1 a1)] []) H (K0 PP Go.Proofs.Try.f73):=by
 intros a0_0 a0_1 a0_2 a1 H
 unfold f
 try simp only [j0_eq rec k,-eq_self]
 kernel_rfl
theorem call (k:Nat):∀ a0_0 a0_1 a0_2 a1 H,callF PP orc (k + 1) impl_NarrowRules.id [.agg [.int .i64 a0_0,.sl 1 a0_1,.sl 3 a0_2],.sl 1 a1] H=f (callF PP orc k) k a0_0 a0_1 a0_2 a1 H:=by
 intros a0_0 a0_1 a0_2 a1 H
 rw [callF_at (fn:=Go.Proofs.Try.f73) (c:=body) Go.Proofs.Try.func73 (by kernel_rfl) (Nat.le_of_ble_eq_true (by kernel_rfl)),f_eq]
 kernel_rfl
end impl_NarrowRules
namespace impl_NarrowBy
noncomputable def body:Code:=(Go.Proofs.Try.f71).body.getD .skip
noncomputable def f (rec:Rec) (k:Nat) (a0_0:Int) (a0_1:Sl) (a0_2:Sl) (a1:Sl) (a2:Int) (H:Hp):An:=(rec impl_PuzzleValid.id [.agg [.int .i64 a0_0,.sl 1 a0_1,.sl 3 a0_2]] H).bind fun r1=>r1.1.toB.bind fun b2=>bif !b2 then some (.sl 1 Sl.none,r1.2) else bif a2 == 1 then (rec impl_NarrowSingles.id [.sl 1 a1,.int .i64 a0_0] r1.2).bind fun r3=>(r3.1.toS 1).bind fun s4=>some (.sl 1 s4,r3.2) else bif a2 == 2 then (rec impl_NarrowHidden.id [.sl 1 a1,.int .i64 a0_0] r1.2).bind fun r5=>(r5.1.toS 1).bind fun s6=>some (.sl 1 s6,r5.2) else bif a2 == 3 then (rec impl_NarrowPairs.id [.sl 1 a1,.int .i64 a0_0] r1.2).bind fun r7=>(r7.1.toS 1).bind fun s8=>some (.sl 1 s8,r7.2) else bif a2 == 4 then (rec impl_NarrowRules.id [.agg [.int .i64 a0_0,.sl 1 a0_1,.sl 3 a0_2],.sl 1 a1] r1.2).bind fun r9=>(r9.1.toS 1).bind fun s10=>some (.sl 1 s10,r9.2) else some (.sl 1 Sl.none,r1.2)
theorem f_eq (rec:Rec) (k:Nat):∀ a0_0 a0_1 a0_2 a1 a2 H,f rec k a0_0 a0_1 a0_2 a1 a2 H=ex PP (orc impl_NarrowBy.id) rec k body (St.of 34 [(0,.agg [.int .i64 a0_0,.sl 1 a0_1,.sl 3 a0_2]),(1,.sl 1 a1),(2,.int .i64 a2)] []) H (K0 PP Go.Proofs.Try.f71):=by
 intros a0_0 a0_1 a0_2 a1 a2 H
 unfold f
 kernel_rfl
theorem call (k:Nat):∀ a0_0 a0_1 a0_2 a1 a2 H,callF PP orc (k + 1) impl_NarrowBy.id [.agg [.int .i64 a0_0,.sl 1 a0_1,.sl 3 a0_2],.sl 1 a1,.int .i64 a2] H=f (callF PP orc k) k a0_0 a0_1 a0_2 a1 a2 H:=by
 intros a0_0 a0_1 a0_2 a1 a2 H
 rw [callF_at (fn:=Go.Proofs.Try.f71) (c:=body) Go.Proofs.Try.func71 (by kernel_rfl) (Nat.le_of_ble_eq_true (by kernel_rfl)),f_eq]
 kernel_rfl
end impl_NarrowBy
namespace laws_sameInts
noncomputable def body:Code:=(Go.Proofs.Try.f32).body.getD .skip
abbrev o:=orc laws_sameInts.id
noncomputable def l0 (rec:Rec) (k:Nat):Nat→Sl→Sl→Int→Hp→An
 | 0,_,_,_,_=>none
 | n + 1,x0,x1,x5,H=>bif decide (x5 < (x0.len:Int)) then bif decide (0 ≤ (x5:Int)) && decide ((x5:Int) < x0.len) then (ldI .i64 H x0.blk (x0.off + (x5:Int).toNat * 1)).bind fun n1=>bif decide (0 ≤ (x5:Int)) && decide ((x5:Int) < x1.len) then (ldI .i64 H x1.blk (x1.off + (x5:Int).toNat * 1)).bind fun n2=>bif n1 != n2 then some (.bool false,H) else (l0 rec k n) x0 x1 (IntKind.i64.wrap (x5 + 1)) H else none else none else some (.bool true,H)
noncomputable def f (rec:Rec) (k:Nat) (a0:Sl) (a1:Sl) (H:Hp):An:=bif (a0.len:Int) != (a1.len:Int) then some (.bool false,H) else l0 rec k k a0 a1 0 H
theorem l0_eq (rec:Rec) (k:Nat):∀ n x0 x1 x5 H,l0 rec k n x0 x1 x5 H=iter (o.at (lbody (sub body [1,1,0,1,0]))) (ex PP o rec k (lbody (sub body [1,1,0,1,0]))) (kAt PP o rec k body [1,1,0,1,0] [] (K0 PP Go.Proofs.Try.f32)) n (St.of 26 [(0,.sl 1 x0),(1,.sl 1 x1),(5,.int .i64 x5)] []) H:=by
 intro n
 induction n with
 | zero=>intros; rfl
 | succ n ih=>
  intros x0 x1 x5 H
  simp only [l0,ih,-eq_self]
  kernel_rfl
theorem f_eq (rec:Rec) (k:Nat):∀ a0 a1 H,f rec k a0 a1 H=ex PP o rec k body (St.of 26 [(0,.sl 1 a0),(1,.sl 1 a1)] []) H (K0 PP Go.Proofs.Try.f32):=by
 intros a0 a1 H
 unfold f
 try simp only [l0_eq rec k,-eq_self]
 kernel_rfl
theorem call (k:Nat):∀ a0 a1 H,callF PP orc (k + 1) laws_sameInts.id [.sl 1 a0,.sl 1 a1] H=f (callF PP orc k) k a0 a1 H:=by
 intros a0 a1 H
 rw [callF_at (fn:=Go.Proofs.Try.f32) (c:=body) Go.Proofs.Try.func32 (by kernel_rfl) (Nat.le_of_ble_eq_true (by kernel_rfl)),f_eq]
 kernel_rfl
end laws_sameInts
namespace laws_FnNarrowBy
noncomputable def body:Code:=(Go.Proofs.Try.f16).body.getD .skip
abbrev o:=orc laws_FnNarrowBy.id
noncomputable def j1 (rec:Rec) (k:Nat) (x4:Sl) (x5:Int) (x6:Sl) (y3_0:Int) (y3_1:Sl) (y3_2:Sl) (H:Hp):An:=bif x5 == 1 then (rec impl_NarrowSingles.id [.sl 1 x4,.int .i64 y3_0] H).bind fun r19=>(r19.1.toS 1).bind fun s20=>(rec laws_sameInts.id [.sl 1 x6,.sl 1 s20] r19.2).bind fun r21=>r21.1.toB.bind fun b22=>some (.bool b22,r21.2) else bif x5 == 2 then (rec impl_NarrowHidden.id [.sl 1 x4,.int .i64 y3_0] H).bind fun r23=>(r23.1.toS 1).bind fun s24=>(rec laws_sameInts.id [.sl 1 x6,.sl 1 s24] r23.2).bind fun r25=>r25.1.toB.bind fun b26=>some (.bool b26,r25.2) else bif x5 == 3 then (rec impl_NarrowPairs.id [.sl 1 x4,.int .i64 y3_0] H).bind fun r27=>(r27.1.toS 1).bind fun s28=>(rec laws_sameInts.id [.sl 1 x6,.sl 1 s28] r27.2).bind fun r29=>r29.1.toB.bind fun b30=>some (.bool b30,r29.2) else bif x5 == 4 then (rec impl_NarrowRules.id [.agg [.int .i64 y3_0,.sl 1 y3_1,.sl 3 y3_2],.sl 1 x4] H).bind fun r31=>(r31.1.toS 1).bind fun s32=>(rec laws_sameInts.id [.sl 1 x6,.sl 1 s32] r31.2).bind fun r33=>r33.1.toB.bind fun b34=>some (.bool b34,r33.2) else some (.bool ((x6.len:Int) == 0),H)
noncomputable def j0 (rec:Rec) (k:Nat) (x4:Sl) (x5:Int) (x6:Sl) (x36:Bool) (y3_0:Int) (y3_1:Sl) (y3_2:Sl) (H:Hp):An:=bif x36 then bif (x6.len:Int) == 0 then (rec laws_alive.id [] H).bind fun r17=>r17.1.toB.bind fun b18=>some (.bool b18,r17.2) else some (.bool false,H) else j1 rec k x4 x5 x6 y3_0 y3_1 y3_2 H
noncomputable def f (rec:Rec) (k:Nat) (a0:Sl) (H:Hp):An:=bif decide ((a0.len:Int) > 1048576) then some (.bool true,H) else (rec spec_DrawNarrowBy.id [.sl 1 a0] H).bind fun r1=>bif r1.1.isTup 3 then bif (r1.1.nth 0).isAgg 3 then (((r1.1.nth 0).cel 0).toI .i64).bind fun n2=>(((r1.1.nth 0).cel 1).toS 1).bind fun s3=>(((r1.1.nth 0).cel 2).toS 3).bind fun s4=>((r1.1.nth 1).toS 1).bind fun s5=>((r1.1.nth 2).toI .i64).bind fun n6=>(rec impl_NarrowBy.id [.agg [.int .i64 n2,.sl 1 s3,.sl 3 s4],.sl 1 s5,.int .i64 n6] r1.2).bind fun r7=>(r7.1.toS 1).bind fun s8=>(rec spec_NarrowBy.id [.agg [.int .i64 n2,.sl 1 s3,.sl 3 s4],.sl 1 s5,.int .i64 n6] r7.2).bind fun r9=>(r9.1.toS 1).bind fun s10=>(rec laws_sameInts.id [.sl 1 s8,.sl 1 s10] r9.2).bind fun r11=>r11.1.toB.bind fun b12=>bif !b12 then some (.bool false,r11.2) else (rec spec_PuzzleValid.id [.agg [.int .i64 n2,.sl 1 s3,.sl 3 s4]] r11.2).bind fun r13=>r13.1.toB.bind fun b14=>bif !b14 then j0 rec k s5 n6 s8 true n2 s3 s4 r13.2 else (rec spec_MasksValid.id [.sl 1 s5,.int .i64 n2] r13.2).bind fun r15=>r15.1.toB.bind fun b16=>j0 rec k s5 n6 s8 (!b16) n2 s3 s4 r15.2 else none else none
theorem j1_eq (rec:Rec) (k:Nat):∀ x4 x5 x6 y3_0 y3_1 y3_2 H,j1 rec k x4 x5 x6 y3_0 y3_1 y3_2 H=ex PP o rec k (sub body [1,1,1,1,1,1]) (St.of 78 [(3,.lp 3 0),(4,.sl 1 x4),(5,.int .i64 x5),(6,.sl 1 x6)] [(3,[.int .i64 y3_0,.sl 1 y3_1,.sl 3 y3_2])]) H (kAt PP o rec k body [1,1,1,1,1,1] [] (K0 PP Go.Proofs.Try.f16)):=by
 intros x4 x5 x6 y3_0 y3_1 y3_2 H
 simp only [j1,-eq_self]
 kernel_rfl
theorem j0_eq (rec:Rec) (k:Nat):∀ x4 x5 x6 x36 y3_0 y3_1 y3_2 H,j0 rec k x4 x5 x6 x36 y3_0 y3_1 y3_2 H=ex PP o rec k (sub body [1,1,1,1,1,0,1]) (St.of 78 [(3,.lp 3 0),(4,.sl 1 x4),(5,.int .i64 x5),(6,.sl 1 x6),(36,.bool x36)] [(3,[.int .i64 y3_0,.sl 1 y3_1,.sl 3 y3_2])]) H (kAt PP o rec k body [1,1,1,1,1,0,1] [] (K0 PP Go.Proofs.Try.f16)):=by
 intros x4 x5 x6 x36 y3_0 y3_1 y3_2 H
 simp only [j0,j1,-eq_self]
 kernel_rfl
theorem f_eq (rec:Rec) (k:Nat):∀ a0 H,f rec k a0 H=ex PP o rec k body (St.of 78 [(0,.sl 1 a0)] []) H (K0 PP Go.Proofs.Try.f16):=by
 intros a0 H
 simp only [f,j0,j1,-eq_self]
 kernel_rfl
theorem call (k:Nat):∀ a0 H,callF PP orc (k + 1) laws_FnNarrowBy.id [.sl 1 a0] H=f (callF PP orc k) k a0 H:=by
 intros a0 H
 rw [callF_at (fn:=Go.Proofs.Try.f16) (c:=body) Go.Proofs.Try.func16 (by kernel_rfl) (Nat.le_of_ble_eq_true (by kernel_rfl)),f_eq]
 kernel_rfl
end laws_FnNarrowBy
namespace spec_DrawNarrowBy
noncomputable def body:Code:=(Go.Proofs.Try.f70).body.getD .skip
noncomputable def f (rec:Rec) (k:Nat) (a0:Sl) (H:Hp):An:=(rec spec_l20Open.id [.sl 1 a0] H).bind fun r1=>r1.1.toP.bind fun p2=>(rec spec_l20Work.id [.ptr p2.1 p2.2] r1.2).bind fun r3=>bif r3.1.isTup 2 then bif (r3.1.nth 0).isAgg 3 then (((r3.1.nth 0).cel 0).toI .i64).bind fun n4=>(((r3.1.nth 0).cel 1).toS 1).bind fun s5=>(((r3.1.nth 0).cel 2).toS 3).bind fun s6=>((r3.1.nth 1).toS 1).bind fun s7=>(rec spec_l20Rd_pick.id [.ptr p2.1 p2.2,.int .i64 6] r3.2).bind fun r8=>(r8.1.toI .i64).bind fun n9=>some (.tup [.agg [.int .i64 n4,.sl 1 s5,.sl 3 s6],.sl 1 s7,.int .i64 n9],r8.2) else none else none
theorem f_eq (rec:Rec) (k:Nat):∀ a0 H,f rec k a0 H=ex PP (orc spec_DrawNarrowBy.id) rec k body (St.of 19 [(0,.sl 1 a0)] []) H (K0 PP Go.Proofs.Try.f70):=by
 intros a0 H
 unfold f
 kernel_rfl
theorem call (k:Nat):∀ a0 H,callF PP orc (k + 1) spec_DrawNarrowBy.id [.sl 1 a0] H=f (callF PP orc k) k a0 H:=by
 intros a0 H
 rw [callF_at (fn:=Go.Proofs.Try.f70) (c:=body) Go.Proofs.Try.func70 (by kernel_rfl) (Nat.le_of_ble_eq_true (by kernel_rfl)),f_eq]
 kernel_rfl
end spec_DrawNarrowBy
end Go.Proofs.Ytjojhbdghhmeeaa.Rp
