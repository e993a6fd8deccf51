/- Texts for the row of the law FnRuleMasks, part 9: the plain machine, the program's functions on it, what they come to. No conditions. -/
import Derived.Test.YtjojhbdghhmeeaaAb
import Derived.Test.YtjojhbdghhmeeaaOr
set_option linter.unusedVariables false
set_option linter.unusedSimpArgs false
set_option maxRecDepth 100000
namespace Go.Proofs.Ytjojhbdghhmeeaa.Rp
open Go Go.Proofs.Ytjojhbdghhmeeaa.Ab
namespace impl_RuleMasks
noncomputable def body:Code:=(Go.Proofs.Try.f67).body.getD .skip
abbrev o:=orc impl_RuleMasks.id
noncomputable def j3 (rec:Rec) (k:Nat) (x7:Sl) (y3_0:Int) (y3_1:Sl) (y3_2:Int) (H:Hp):An:=(rec impl_ruleMasks.id [.agg [.int .i64 y3_0,.sl 1 y3_1,.int .i64 y3_2],.sl 1 x7] H).bind fun r8=>(r8.1.toS 1).bind fun s9=>some (.sl 1 s9,r8.2)
noncomputable def l2 (rec:Rec) (k:Nat):Nat→Sl→Sl→Sl→Int→Int→Int→Sl→Int→Hp→An
 | 0,_,_,_,_,_,_,_,_,_=>none
 | n + 1,x1,x7,x22,x23,x24,y3_0,y3_1,y3_2,H=>bif decide (x24 < x23) then bif decide (0 ≤ (x24:Int)) && decide ((x24:Int) < x22.len) then (ldI .i64 H x22.blk (x22.off + (x24:Int).toNat * 1)).bind fun n5=>bif decide (0 ≤ (n5:Int)) && decide ((n5:Int) < x1.len) then (ldI .i64 H x1.blk (x1.off + (n5:Int).toNat * 1)).bind fun n6=>(H.app 1 x7 1 [.int .i64 n6]).bind fun w7=>(l2 rec k n) x1 w7.1 x22 x23 (IntKind.i64.wrap (x24 + 1)) y3_0 y3_1 y3_2 w7.2 else none else none else j3 rec k x7 y3_0 y3_1 y3_2 H
noncomputable def j1 (rec:Rec) (k:Nat) (x1:Sl) (y3_0:Int) (y3_1:Sl) (y3_2:Int) (H:Hp):An:=l2 rec k k x1 (Sl.mk false H.length 0 0) y3_1 (y3_1.len:Int) 0 y3_0 y3_1 y3_2 (H ++ [some (Blk.mk false [])])
noncomputable def j0 (rec:Rec) (k:Nat) (x1:Sl) (x19:Bool) (y3_0:Int) (y3_1:Sl) (y3_2:Int) (H:Hp):An:=bif x19 then some (.sl 1 Sl.none,H) else j1 rec k x1 y3_0 y3_1 y3_2 H
noncomputable def f (rec:Rec) (k:Nat) (a0_0:Int) (a0_1:Sl) (a0_2:Int) (a1:Sl) (a2:Int) (H:Hp):An:=(rec impl_RuleValid.id [.agg [.int .i64 a0_0,.sl 1 a0_1,.int .i64 a0_2],.int .i64 a2] H).bind fun r1=>r1.1.toB.bind fun b2=>bif !b2 then j0 rec k a1 true a0_0 a0_1 a0_2 r1.2 else (rec impl_MasksValid.id [.sl 1 a1,.int .i64 a2] r1.2).bind fun r3=>r3.1.toB.bind fun b4=>j0 rec k a1 (!b4) a0_0 a0_1 a0_2 r3.2
theorem j3_eq (rec:Rec) (k:Nat):∀ x7 y3_0 y3_1 y3_2 H,j3 rec k x7 y3_0 y3_1 y3_2 H=ex PP o rec k (sub body [1,1,1,1]) (St.of 39 [(3,.lp 3 0),(7,.sl 1 x7)] [(3,[.int .i64 y3_0,.sl 1 y3_1,.int .i64 y3_2])]) H (kAt PP o rec k body [1,1,1,1] [] (K0 PP Go.Proofs.Try.f67)):=by
 intros x7 y3_0 y3_1 y3_2 H
 unfold j3
 kernel_rfl
theorem l2_eq (rec:Rec) (k:Nat):∀ n x1 x7 x22 x23 x24 y3_0 y3_1 y3_2 H,l2 rec k n x1 x7 x22 x23 x24 y3_0 y3_1 y3_2 H=iter (o.at (lbody (sub body [1,1,1,0,1,0]))) (ex PP o rec k (lbody (sub body [1,1,1,0,1,0]))) (kAt PP o rec k body [1,1,1,0,1,0] [] (K0 PP Go.Proofs.Try.f67)) n (St.of 39 [(1,.sl 1 x1),(3,.lp 3 0),(7,.sl 1 x7),(22,.sl 1 x22),(23,.int .i64 x23),(24,.int .i64 x24)] [(3,[.int .i64 y3_0,.sl 1 y3_1,.int .i64 y3_2])]) H:=by
 intro n
 induction n with
 | zero=>intros; rfl
 | succ n ih=>
  intros x1 x7 x22 x23 x24 y3_0 y3_1 y3_2 H
  simp only [l2,j3_eq rec k,ih,-eq_self]
  kernel_rfl
theorem j1_eq (rec:Rec) (k:Nat):∀ x1 y3_0 y3_1 y3_2 H,j1 rec k x1 y3_0 y3_1 y3_2 H=ex PP o rec k (sub body [1,1]) (St.of 39 [(1,.sl 1 x1),(3,.lp 3 0)] [(3,[.int .i64 y3_0,.sl 1 y3_1,.int .i64 y3_2])]) H (kAt PP o rec k body [1,1] [] (K0 PP Go.Proofs.Try.f67)):=by
 intros x1 y3_0 y3_1 y3_2 H
 unfold j1
 try simp only [l2_eq rec k,-eq_self]
 kernel_rfl
theorem j0_eq (rec:Rec) (k:Nat):∀ x1 x19 y3_0 y3_1 y3_2 H,j0 rec k x1 x19 y3_0 y3_1 y3_2 H=ex PP o rec k (sub body [1,0,1]) (St.of 39 [(1,.sl 1 x1),(3,.lp 3 0),(19,.bool x19)] [(3,[.int .i64 y3_0,.sl 1 y3_1,.int .i64 y3_2])]) H (kAt PP o rec k body [1,0,1] [] (K0 PP Go.Proofs.Try.f67)):=by
 intros x1 x19 y3_0 y3_1 y3_2 H
 unfold j0
 try simp only [j1_eq rec k,-eq_self]
 kernel_rfl
theorem f_eq (rec:Rec) (k:Nat):∀ a0_0 a0_1 a0_2 a1 a2 H,f rec k a0_0 a0_1 a0_2 a1 a2 H=ex PP o rec k body (St.of 39 [(0,.agg [.int .i64 a0_0,.sl 1 a0_1,.int .i64 a0_2]),(1,.sl 1 a1),(2,.int .i64 a2)] []) H (K0 PP Go.Proofs.Try.f67):=by
 intros a0_0 a0_1 a0_2 a1 a2 H
 unfold f
 try simp only [j0_eq rec k,-eq_self]
 kernel_rfl
theorem call (k:Nat):∀ a0_0 a0_1 a0_2 a1 a2 H,callF PP orc (k + 1) impl_RuleMasks.id [.agg [.int .i64 a0_0,.sl 1 a0_1,.int .i64 a0_2],.sl 1 a1,.int .i64 a2] H=f (callF PP orc k) k a0_0 a0_1 a0_2 a1 a2 H:=by
 intros a0_0 a0_1 a0_2 a1 a2 H
 rw [callF_at (fn:=Go.Proofs.Try.f67) (c:=body) Go.Proofs.Try.func67 (by kernel_rfl) (Nat.le_of_ble_eq_true (by kernel_rfl)),f_eq]
 kernel_rfl
end impl_RuleMasks
namespace laws_sameInts
noncomputable def body:Code:=(Go.Proofs.Try.f32).body.getD .skip
abbrev o:=orc laws_sameInts.id
noncomputable def l0 (rec:Rec) (k:Nat):Nat→Sl→Sl→Int→Hp→An
 | 0,_,_,_,_=>none
 | n + 1,x0,x1,x5,H=>bif decide (x5 < (x0.len:Int)) then bif decide (0 ≤ (x5:Int)) && decide ((x5:Int) < x0.len) then (ldI .i64 H x0.blk (x0.off + (x5:Int).toNat * 1)).bind fun n1=>bif decide (0 ≤ (x5:Int)) && decide ((x5:Int) < x1.len) then (ldI .i64 H x1.blk (x1.off + (x5:Int).toNat * 1)).bind fun n2=>bif n1 != n2 then some (.bool false,H) else (l0 rec k n) x0 x1 (IntKind.i64.wrap (x5 + 1)) H else none else none else some (.bool true,H)
noncomputable def f (rec:Rec) (k:Nat) (a0:Sl) (a1:Sl) (H:Hp):An:=bif (a0.len:Int) != (a1.len:Int) then some (.bool false,H) else l0 rec k k a0 a1 0 H
theorem l0_eq (rec:Rec) (k:Nat):∀ n x0 x1 x5 H,l0 rec k n x0 x1 x5 H=iter (o.at (lbody (sub body [1,1,0,1,0]))) (ex PP o rec k (lbody (sub body [1,1,0,1,0]))) (kAt PP o rec k body [1,1,0,1,0] [] (K0 PP Go.Proofs.Try.f32)) n (St.of 26 [(0,.sl 1 x0),(1,.sl 1 x1),(5,.int .i64 x5)] []) H:=by
 intro n
 induction n with
 | zero=>intros; rfl
 | succ n ih=>
  intros x0 x1 x5 H
  simp only [l0,ih,-eq_self]
  kernel_rfl
theorem f_eq (rec:Rec) (k:Nat):∀ a0 a1 H,f rec k a0 a1 H=ex PP o rec k body (St.of 26 [(0,.sl 1 a0),(1,.sl 1 a1)] []) H (K0 PP Go.Proofs.Try.f32):=by
 intros a0 a1 H
 unfold f
 try simp only [l0_eq rec k,-eq_self]
 kernel_rfl
theorem call (k:Nat):∀ a0 a1 H,callF PP orc (k + 1) laws_sameInts.id [.sl 1 a0,.sl 1 a1] H=f (callF PP orc k) k a0 a1 H:=by
 intros a0 a1 H
 rw [callF_at (fn:=Go.Proofs.Try.f32) (c:=body) Go.Proofs.Try.func32 (by kernel_rfl) (Nat.le_of_ble_eq_true (by kernel_rfl)),f_eq]
 kernel_rfl
end laws_sameInts
namespace laws_FnRuleMasks
noncomputable def body:Code:=(Go.Proofs.Try.f15).body.getD .skip
abbrev o:=orc laws_FnRuleMasks.id
abbrev TL2:=Sl→Int→Sl→Sl→Int→Int→Int→Sl→Int→Hp→An
abbrev PhL2 (rec:Rec) (k n2:Nat) (L2:TL2):Prop:=∀ x4 x5 x6 x7 x8 x9 y3_0 y3_1 y3_2 H,L2 x4 x5 x6 x7 x8 x9 y3_0 y3_1 y3_2 H=iter (o.at (lbody (sub body [1,1,1,1,1,1,1,1,0,1,0]))) (ex PP o rec k (lbody (sub body [1,1,1,1,1,1,1,1,0,1,0]))) (kAt PP o rec k body [1,1,1,1,1,1,1,1,0,1,0] [] (K0 PP Go.Proofs.Try.f15)) n2 (St.of 111 [(3,.lp 3 0),(4,.sl 1 x4),(5,.int .i64 x5),(6,.sl 1 x6),(7,.sl 1 x7),(8,.int .i64 x8),(9,.int .i64 x9)] [(3,[.int .i64 y3_0,.sl 1 y3_1,.int .i64 y3_2])]) H
noncomputable def j4 (rec:Rec) (k:Nat) (x5:Int) (x6:Sl) (x7:Sl) (x8:Int) (y3_0:Int) (y3_1:Sl) (y3_2:Int) (H:Hp):An:=bif (x6.len:Int) == (y3_1.len:Int) then bif x8 == 0 then (rec impl_RuleMasks.id [.agg [.int .i64 y3_0,.sl 1 y3_1,.int .i64 y3_2],.sl 1 x7,.int .i64 x5] H).bind fun r28=>(r28.1.toS 1).bind fun s29=>(rec laws_sameInts.id [.sl 1 s29,.sl 1 x6] r28.2).bind fun r30=>r30.1.toB.bind fun b31=>some (.bool b31,r30.2) else bif x8 == (x6.len:Int) then (rec impl_RuleMasks.id [.agg [.int .i64 y3_0,.sl 1 y3_1,.int .i64 y3_2],.sl 1 x7,.int .i64 x5] H).bind fun r32=>(r32.1.toS 1).bind fun s33=>(rec laws_sameInts.id [.sl 1 s33,.sl 1 x6] r32.2).bind fun r34=>r34.1.toB.bind fun b35=>some (.bool b35,r34.2) else some (.bool false,H) else some (.bool false,H)
noncomputable def j5 (rec:Rec) (k:Nat) (L2:TL2) (x4:Sl) (x5:Int) (x6:Sl) (x7:Sl) (x8:Int) (x9:Int) (y3_0:Int) (y3_1:Sl) (y3_2:Int) (H:Hp):An:=L2 x4 x5 x6 x7 x8 (IntKind.i64.wrap (x9 + 1)) y3_0 y3_1 y3_2 H
noncomputable def j3 (rec:Rec) (k:Nat) (L2:TL2) (x4:Sl) (x5:Int) (x6:Sl) (x7:Sl) (x8:Int) (x9:Int) (y3_0:Int) (y3_1:Sl) (y3_2:Int) (H:Hp):An:=bif decide (0 ≤ (x9:Int)) && decide ((x9:Int) < y3_1.len) then (ldI .i64 H y3_1.blk (y3_1.off + (x9:Int).toNat * 1)).bind fun n25=>bif decide (0 ≤ (x9:Int)) && decide ((x9:Int) < x6.len) then (ldI .i64 H x6.blk (x6.off + (x9:Int).toNat * 1)).bind fun n26=>bif decide (0 ≤ (n25:Int)) && decide ((n25:Int) < x7.len) then (H.sto x7.blk (x7.off + (n25:Int).toNat * 1) [.int .i64 n26]).bind fun H27=>j5 rec k L2 x4 x5 x6 x7 x8 x9 y3_0 y3_1 y3_2 H27 else none else none else none
noncomputable def l2 (rec:Rec) (k:Nat):Nat→Sl→Int→Sl→Sl→Int→Int→Int→Sl→Int→Hp→An
 | 0,_,_,_,_,_,_,_,_,_,_=>none
 | n + 1,x4,x5,x6,x7,x8,x9,y3_0,y3_1,y3_2,H=>bif decide (x9 < (x6.len:Int)) then bif decide (0 ≤ (x9:Int)) && decide ((x9:Int) < x6.len) then (ldI .i64 H x6.blk (x6.off + (x9:Int).toNat * 1)).bind fun n21=>bif decide (0 ≤ (x9:Int)) && decide ((x9:Int) < y3_1.len) then (ldI .i64 H y3_1.blk (y3_1.off + (x9:Int).toNat * 1)).bind fun n22=>bif decide (0 ≤ (n22:Int)) && decide ((n22:Int) < x4.len) then (ldI .i64 H x4.blk (x4.off + (n22:Int).toNat * 1)).bind fun n23=>bif (IntKind.i64.wrap (((BitVec.ofInt IntKind.i64.bits n21 &&& ~~~ (BitVec.ofInt IntKind.i64.bits n23)).toNat:Int))) != 0 then some (.bool false,H) else bif decide (0 ≤ (x9:Int)) && decide ((x9:Int) < x6.len) then (ldI .i64 H x6.blk (x6.off + (x9:Int).toNat * 1)).bind fun n24=>bif n24 == 0 then j3 rec k (l2 rec k n) x4 x5 x6 x7 (IntKind.i64.wrap (x8 + 1)) x9 y3_0 y3_1 y3_2 H else j3 rec k (l2 rec k n) x4 x5 x6 x7 x8 x9 y3_0 y3_1 y3_2 H else none else none else none else none else j4 rec k x5 x6 x7 x8 y3_0 y3_1 y3_2 H
noncomputable def j1 (rec:Rec) (k:Nat) (x4:Sl) (x5:Int) (x6:Sl) (y3_0:Int) (y3_1:Sl) (y3_2:Int) (H:Hp):An:=(H.read 1 x4).bind fun c20=>(H.appl 1 [] 0 x4.len c20).bind fun w19=>bif true && c20.all AV.cell then l2 rec k k x4 x5 x6 w19.1 0 0 y3_0 y3_1 y3_2 w19.2 else none
noncomputable def j0 (rec:Rec) (k:Nat) (x4:Sl) (x5:Int) (x6:Sl) (x39:Bool) (y3_0:Int) (y3_1:Sl) (y3_2:Int) (H:Hp):An:=bif x39 then bif (x6.len:Int) == 0 then (rec laws_alive.id [] H).bind fun r17=>r17.1.toB.bind fun b18=>some (.bool b18,r17.2) else some (.bool false,H) else j1 rec k x4 x5 x6 y3_0 y3_1 y3_2 H
noncomputable def f (rec:Rec) (k:Nat) (a0:Sl) (H:Hp):An:=bif decide ((a0.len:Int) > 1048576) then some (.bool true,H) else (rec spec_DrawRuleMasks.id [.sl 1 a0] H).bind fun r1=>bif r1.1.isTup 3 then bif (r1.1.nth 0).isAgg 3 then (((r1.1.nth 0).cel 0).toI .i64).bind fun n2=>(((r1.1.nth 0).cel 1).toS 1).bind fun s3=>(((r1.1.nth 0).cel 2).toI .i64).bind fun n4=>((r1.1.nth 1).toS 1).bind fun s5=>((r1.1.nth 2).toI .i64).bind fun n6=>(rec impl_RuleMasks.id [.agg [.int .i64 n2,.sl 1 s3,.int .i64 n4],.sl 1 s5,.int .i64 n6] r1.2).bind fun r7=>(r7.1.toS 1).bind fun s8=>(rec spec_RuleMasks.id [.agg [.int .i64 n2,.sl 1 s3,.int .i64 n4],.sl 1 s5,.int .i64 n6] r7.2).bind fun r9=>(r9.1.toS 1).bind fun s10=>(rec laws_sameInts.id [.sl 1 s8,.sl 1 s10] r9.2).bind fun r11=>r11.1.toB.bind fun b12=>bif !b12 then some (.bool false,r11.2) else (rec spec_RuleValid.id [.agg [.int .i64 n2,.sl 1 s3,.int .i64 n4],.int .i64 n6] r11.2).bind fun r13=>r13.1.toB.bind fun b14=>bif !b14 then j0 rec k s5 n6 s8 true n2 s3 n4 r13.2 else (rec spec_MasksValid.id [.sl 1 s5,.int .i64 n6] r13.2).bind fun r15=>r15.1.toB.bind fun b16=>j0 rec k s5 n6 s8 (!b16) n2 s3 n4 r15.2 else none else none
theorem j4_eq (rec:Rec) (k:Nat):∀ x5 x6 x7 x8 y3_0 y3_1 y3_2 H,j4 rec k x5 x6 x7 x8 y3_0 y3_1 y3_2 H=ex PP o rec k (sub body [1,1,1,1,1,1,1,1,1]) (St.of 111 [(3,.lp 3 0),(5,.int .i64 x5),(6,.sl 1 x6),(7,.sl 1 x7),(8,.int .i64 x8)] [(3,[.int .i64 y3_0,.sl 1 y3_1,.int .i64 y3_2])]) H (kAt PP o rec k body [1,1,1,1,1,1,1,1,1] [] (K0 PP Go.Proofs.Try.f15)):=by
 intros x5 x6 x7 x8 y3_0 y3_1 y3_2 H
 simp only [j4,-eq_self]
 kernel_rfl
theorem j5_eq (rec:Rec) (k:Nat) (n2:Nat) (L2:TL2) (hL2:PhL2 rec k n2 L2):∀ x4 x5 x6 x7 x8 x9 y3_0 y3_1 y3_2 H,j5 rec k L2 x4 x5 x6 x7 x8 x9 y3_0 y3_1 y3_2 H=ex PP o rec k (sub body [1,1,1,1,1,1,1,1,0,1,0,0,1,1]) (St.of 111 [(3,.lp 3 0),(4,.sl 1 x4),(5,.int .i64 x5),(6,.sl 1 x6),(7,.sl 1 x7),(8,.int .i64 x8),(9,.int .i64 x9)] [(3,[.int .i64 y3_0,.sl 1 y3_1,.int .i64 y3_2])]) H (kAt PP o rec k body [1,1,1,1,1,1,1,1,0,1,0,0,1,1] [n2] (K0 PP Go.Proofs.Try.f15)):=by
 intros x4 x5 x6 x7 x8 x9 y3_0 y3_1 y3_2 H
 simp only [j5,hL2,-eq_self]
 kernel_rfl
theorem j3_eq (rec:Rec) (k:Nat) (n2:Nat) (L2:TL2) (hL2:PhL2 rec k n2 L2):∀ x4 x5 x6 x7 x8 x9 y3_0 y3_1 y3_2 H,j3 rec k L2 x4 x5 x6 x7 x8 x9 y3_0 y3_1 y3_2 H=ex PP o rec k (sub body [1,1,1,1,1,1,1,1,0,1,0,0,1,0,0,1,1]) (St.of 111 [(3,.lp 3 0),(4,.sl 1 x4),(5,.int .i64 x5),(6,.sl 1 x6),(7,.sl 1 x7),(8,.int .i64 x8),(9,.int .i64 x9)] [(3,[.int .i64 y3_0,.sl 1 y3_1,.int .i64 y3_2])]) H (kAt PP o rec k body [1,1,1,1,1,1,1,1,0,1,0,0,1,0,0,1,1] [n2] (K0 PP Go.Proofs.Try.f15)):=by
 intros x4 x5 x6 x7 x8 x9 y3_0 y3_1 y3_2 H
 simp only [j3,j5,hL2,-eq_self]
 kernel_rfl
theorem l2_eq (rec:Rec) (k:Nat):∀ n x4 x5 x6 x7 x8 x9 y3_0 y3_1 y3_2 H,l2 rec k n x4 x5 x6 x7 x8 x9 y3_0 y3_1 y3_2 H=iter (o.at (lbody (sub body [1,1,1,1,1,1,1,1,0,1,0]))) (ex PP o rec k (lbody (sub body [1,1,1,1,1,1,1,1,0,1,0]))) (kAt PP o rec k body [1,1,1,1,1,1,1,1,0,1,0] [] (K0 PP Go.Proofs.Try.f15)) n (St.of 111 [(3,.lp 3 0),(4,.sl 1 x4),(5,.int .i64 x5),(6,.sl 1 x6),(7,.sl 1 x7),(8,.int .i64 x8),(9,.int .i64 x9)] [(3,[.int .i64 y3_0,.sl 1 y3_1,.int .i64 y3_2])]) H:=by
 intro n
 induction n with
 | zero=>intros; rfl
 | succ n ih=>
  intros x4 x5 x6 x7 x8 x9 y3_0 y3_1 y3_2 H
  simp only [l2,j3,j4,j5,ih,-eq_self]
  kernel_rfl
theorem j1_eq (rec:Rec) (k:Nat):∀ x4 x5 x6 y3_0 y3_1 y3_2 H,j1 rec k x4 x5 x6 y3_0 y3_1 y3_2 H=ex PP o rec k (sub body [1,1,1,1,1,1]) (St.of 111 [(3,.lp 3 0),(4,.sl 1 x4),(5,.int .i64 x5),(6,.sl 1 x6)] [(3,[.int .i64 y3_0,.sl 1 y3_1,.int .i64 y3_2])]) H (kAt PP o rec k body [1,1,1,1,1,1] [] (K0 PP Go.Proofs.Try.f15)):=by
 intros x4 x5 x6 y3_0 y3_1 y3_2 H
 simp only [j1,l2_eq rec k,-eq_self]
 kernel_rfl
theorem j0_eq (rec:Rec) (k:Nat):∀ x4 x5 x6 x39 y3_0 y3_1 y3_2 H,j0 rec k x4 x5 x6 x39 y3_0 y3_1 y3_2 H=ex PP o rec k (sub body [1,1,1,1,1,0,1]) (St.of 111 [(3,.lp 3 0),(4,.sl 1 x4),(5,.int .i64 x5),(6,.sl 1 x6),(39,.bool x39)] [(3,[.int .i64 y3_0,.sl 1 y3_1,.int .i64 y3_2])]) H (kAt PP o rec k body [1,1,1,1,1,0,1] [] (K0 PP Go.Proofs.Try.f15)):=by
 intros x4 x5 x6 x39 y3_0 y3_1 y3_2 H
 simp only [j0,j1,l2_eq rec k,-eq_self]
 kernel_rfl
theorem f_eq (rec:Rec) (k:Nat):∀ a0 H,f rec k a0 H=ex PP o rec k body (St.of 111 [(0,.sl 1 a0)] []) H (K0 PP Go.Proofs.Try.f15):=by
 intros a0 H
 simp only [f,j0,j1,l2_eq rec k,-eq_self]
 kernel_rfl
theorem call (k:Nat):∀ a0 H,callF PP orc (k + 1) laws_FnRuleMasks.id [.sl 1 a0] H=f (callF PP orc k) k a0 H:=by
 intros a0 H
 rw [callF_at (fn:=Go.Proofs.Try.f15) (c:=body) Go.Proofs.Try.func15 (by kernel_rfl) (Nat.le_of_ble_eq_true (by kernel_rfl)),f_eq]
 kernel_rfl
end laws_FnRuleMasks
namespace spec_DrawRuleMasks
noncomputable def body:Code:=(Go.Proofs.Try.f66).body.getD .skip
noncomputable def f (rec:Rec) (k:Nat) (a0:Sl) (H:Hp):An:=(rec spec_l20Open.id [.sl 1 a0] H).bind fun r1=>r1.1.toP.bind fun p2=>(rec spec_l20Masks.id [.ptr p2.1 p2.2,.int .i64 14] r1.2).bind fun r3=>bif r3.1.isTup 2 then ((r3.1.nth 0).toS 1).bind fun s4=>((r3.1.nth 1).toI .i64).bind fun n5=>(rec spec_l20Solved.id [.ptr p2.1 p2.2,.int .i64 (mx 2 (mn 4 n5))] r3.2).bind fun r6=>(r6.1.toS 1).bind fun s7=>(rec spec_l20Rule.id [.ptr p2.1 p2.2,.sl 1 s7,.int .i64 (mx 2 (mn 4 n5)),.int .i64 14] r6.2).bind fun r8=>bif r8.1.isAgg 3 then ((r8.1.cel 0).toI .i64).bind fun n9=>((r8.1.cel 1).toS 1).bind fun s10=>((r8.1.cel 2).toI .i64).bind fun n11=>some (.tup [.agg [.int .i64 n9,.sl 1 s10,.int .i64 n11],.sl 1 s4,.int .i64 n5],r8.2) else none else none
theorem f_eq (rec:Rec) (k:Nat):∀ a0 H,f rec k a0 H=ex PP (orc spec_DrawRuleMasks.id) rec k body (St.of 27 [(0,.sl 1 a0)] []) H (K0 PP Go.Proofs.Try.f66):=by
 intros a0 H
 unfold f
 kernel_rfl
theorem call (k:Nat):∀ a0 H,callF PP orc (k + 1) spec_DrawRuleMasks.id [.sl 1 a0] H=f (callF PP orc k) k a0 H:=by
 intros a0 H
 rw [callF_at (fn:=Go.Proofs.Try.f66) (c:=body) Go.Proofs.Try.func66 (by kernel_rfl) (Nat.le_of_ble_eq_true (by kernel_rfl)),f_eq]
 kernel_rfl
end spec_DrawRuleMasks
end Go.Proofs.Ytjojhbdghhmeeaa.Rp
