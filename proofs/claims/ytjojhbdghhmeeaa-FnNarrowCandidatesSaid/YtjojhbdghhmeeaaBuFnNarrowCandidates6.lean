/- Texts for the row of the law FnNarrowCandidates, part 6: the plain machine, the program's functions on it, what they come to. No conditions. -/
import Derived.Test.YtjojhbdghhmeeaaAb
import Derived.Test.YtjojhbdghhmeeaaOr
import Derived.Test.YtjojhbdghhmeeaaAk
set_option linter.unusedVariables false
set_option linter.unusedSimpArgs false
set_option maxRecDepth 100000
namespace Go.Proofs.Ytjojhbdghhmeeaa.Rp
open Go Go.Proofs.Ytjojhbdghhmeeaa.Ab
namespace laws_alive
noncomputable def body:Code:=(Go.Proofs.Try.f21).body.getD .skip
noncomputable def f (rec:Rec) (k:Nat) (H:Hp):An:=(rec impl_GridFilled.id [.sl 1 (Sl.mk false H.length 0 4),.int .i64 2] (H ++ [some (Blk.mk false [.int .i64 1,.int .i64 0,.int .i64 0,.int .i64 2])])).bind fun r1=>(r1.1.toI .i64).bind fun n2=>some (.bool (n2 == 2),r1.2)
theorem f_eq (rec:Rec) (k:Nat):∀ H,f rec k H=ex PP (orc laws_alive.id) rec k body (St.of 4 [] []) H (K0 PP Go.Proofs.Try.f21):=by
 intros H
 unfold f
 kernel_rfl
theorem call (k:Nat):∀ H,callF PP orc (k + 1) laws_alive.id [] H=f (callF PP orc k) k H:=by
 intros H
 rw [callF_at (fn:=Go.Proofs.Try.f21) (c:=body) Go.Proofs.Try.func21 (by kernel_rfl) (Nat.le_of_ble_eq_true (by kernel_rfl)),f_eq]
 kernel_rfl
end laws_alive
namespace spec_DrawStartMasks
noncomputable def body:Code:=(Go.Proofs.Try.f53).body.getD .skip
noncomputable def f (rec:Rec) (k:Nat) (a0:Sl) (H:Hp):An:=(rec spec_l20Open.id [.sl 1 a0] H).bind fun r1=>r1.1.toP.bind fun p2=>(rec spec_l20Puzzle.id [.ptr p2.1 p2.2,.int .i64 9] r1.2).bind fun r3=>bif r3.1.isAgg 3 then ((r3.1.cel 0).toI .i64).bind fun n4=>((r3.1.cel 1).toS 1).bind fun s5=>((r3.1.cel 2).toS 3).bind fun s6=>some (.agg [.int .i64 n4,.sl 1 s5,.sl 3 s6],r3.2) else none
theorem f_eq (rec:Rec) (k:Nat):∀ a0 H,f rec k a0 H=ex PP (orc spec_DrawStartMasks.id) rec k body (St.of 6 [(0,.sl 1 a0)] []) H (K0 PP Go.Proofs.Try.f53):=by
 intros a0 H
 unfold f
 kernel_rfl
theorem call (k:Nat):∀ a0 H,callF PP orc (k + 1) spec_DrawStartMasks.id [.sl 1 a0] H=f (callF PP orc k) k a0 H:=by
 intros a0 H
 rw [callF_at (fn:=Go.Proofs.Try.f53) (c:=body) Go.Proofs.Try.func53 (by kernel_rfl) (Nat.le_of_ble_eq_true (by kernel_rfl)),f_eq]
 kernel_rfl
end spec_DrawStartMasks
namespace slices_Clone_int
noncomputable def body:Code:=(Go.Proofs.Try.f90).body.getD .skip
noncomputable def f (rec:Rec) (k:Nat) (a0:Sl) (H:Hp):An:=bif a0.nil then some (.sl 1 Sl.none,H) else (H.read 1 a0).bind fun c2=>(H.appl 1 [] 0 a0.len c2).bind fun w1=>bif true && c2.all AV.cell then some (.sl 1 w1.1,w1.2) else none
theorem f_eq (rec:Rec) (k:Nat):∀ a0 H,f rec k a0 H=ex PP (orc slices_Clone_int.id) rec k body (St.of 8 [(0,.sl 1 a0)] []) H (K0 PP Go.Proofs.Try.f90):=by
 intros a0 H
 unfold f
 kernel_rfl
theorem call (k:Nat):∀ a0 H,callF PP orc (k + 1) slices_Clone_int.id [.sl 1 a0] H=f (callF PP orc k) k a0 H:=by
 intros a0 H
 rw [callF_at (fn:=Go.Proofs.Try.f90) (c:=body) Go.Proofs.Try.func90 (by kernel_rfl) (Nat.le_of_ble_eq_true (by kernel_rfl)),f_eq]
 kernel_rfl
end slices_Clone_int
namespace impl_allValues
noncomputable def body:Code:=(Go.Proofs.Try.f84).body.getD .skip
noncomputable def f (rec:Rec) (k:Nat) (a0:Int) (H:Hp):An:=if (IntKind.i64.wrap (a0 + 1):Int) < 0 then none else some (.int .i64 (IntKind.i64.wrap ((IntKind.i64.wrap (1 * 2 ^ (min (IntKind.i64.wrap (a0 + 1):Int).toNat IntKind.i64.bits))) - 2)),H)
theorem f_eq (rec:Rec) (k:Nat):∀ a0 H,f rec k a0 H=ex PP (orc impl_allValues.id) rec k body (St.of 7 [(0,.int .i64 a0)] []) H (K0 PP Go.Proofs.Try.f84):=by
 intros a0 H
 unfold f
 kernel_rfl
theorem call (k:Nat):∀ a0 H,callF PP orc (k + 1) impl_allValues.id [.int .i64 a0] H=f (callF PP orc k) k a0 H:=by
 intros a0 H
 rw [callF_at (fn:=Go.Proofs.Try.f84) (c:=body) Go.Proofs.Try.func84 (by kernel_rfl) (Nat.le_of_ble_eq_true (by kernel_rfl)),f_eq]
 kernel_rfl
end impl_allValues
namespace impl_ruleMasks_1
noncomputable def body:Code:=(Go.Proofs.Try.f122).body.getD .skip
abbrev o:=orc impl_ruleMasks_1.id
noncomputable def l0 (rec:Rec) (k:Nat):Nat→Nat→Nat→Sl→Int→Int→Hp→An
 | 0,_,_,_,_,_,_=>none
 | n + 1,x4b,x4o,x17,x18,x19,H=>bif decide (x19 < x18) then bif decide (0 ≤ (x19:Int)) && decide ((x19:Int) < x17.len) then (ldI .i64 H x17.blk (x17.off + (x19:Int).toNat * 1)).bind fun n9=>(ldS 1 H x4b x4o).bind fun s10=>bif decide (0 ≤ (x19:Int)) && decide ((x19:Int) < s10.len) then (ldI .i64 H s10.blk (s10.off + (x19:Int).toNat * 1)).bind fun n11=>if (n9:Int) < 0 then none else bif decide (0 ≤ (x19:Int)) && decide ((x19:Int) < s10.len) then (H.sto s10.blk (s10.off + (x19:Int).toNat * 1) [.int .i64 (IntKind.i64.wrap (((BitVec.ofInt IntKind.i64.bits n11 ||| BitVec.ofInt IntKind.i64.bits (IntKind.i64.wrap (1 * 2 ^ (min (n9:Int).toNat IntKind.i64.bits)))).toNat:Int)))]).bind fun H12=>(l0 rec k n) x4b x4o x17 x18 (IntKind.i64.wrap (x19 + 1)) H12 else none else none else none else some (.tup [],H)
noncomputable def j2 (rec:Rec) (k:Nat) (L1:Int→Nat→Nat→Nat→Nat→Nat→Nat→Int→Hp→An) (x0:Int) (x1b:Nat) (x1o:Nat) (x3b:Nat) (x3o:Nat) (x5b:Nat) (x5o:Nat) (x9:Int) (H:Hp):An:=L1 x0 x1b x1o x3b x3o x5b x5o (IntKind.i64.wrap (x9 + 1)) H
noncomputable def l1 (rec:Rec) (k:Nat):Nat→Int→Nat→Nat→Nat→Nat→Nat→Nat→Int→Hp→An
 | 0,_,_,_,_,_,_,_,_,_=>none
 | n + 1,x0,x1b,x1o,x3b,x3o,x5b,x5o,x9,H=>bif decide (x9 ≤ 4) then (ldS 1 H x1b x1o).bind fun s13=>bif decide (0 ≤ (x0:Int)) && decide ((x0:Int) < s13.len) then (ldI .i64 H s13.blk (s13.off + (x0:Int).toNat * 1)).bind fun n14=>if (x9:Int) < 0 then none else bif (IntKind.i64.wrap (((BitVec.ofInt IntKind.i64.bits ((n14:Int).fdiv (2 ^ (min (x9:Int).toNat IntKind.i64.bits))) &&& BitVec.ofInt IntKind.i64.bits 1).toNat:Int))) == 1 then (ldS 1 H x3b x3o).bind fun s15=>bif decide (0 ≤ (x0:Int)) && decide ((x0:Int) < s15.len) then (H.sto s15.blk (s15.off + (x0:Int).toNat * 1) [.int .i64 x9]).bind fun H16=>(ldF H16 x5b x5o).bind fun q17=>bif okF Go.Proofs.Try.prog q17.1 && ([.int .i64 (IntKind.i64.wrap (x0 + 1))] ++ q17.2:List AV).all AV.glob then (rec q17.1 ([.int .i64 (IntKind.i64.wrap (x0 + 1))] ++ q17.2) H16).bind fun r18=>j2 rec k (l1 rec k n) x0 x1b x1o x3b x3o x5b x5o x9 r18.2 else none else none else j2 rec k (l1 rec k n) x0 x1b x1o x3b x3o x5b x5o x9 H else none else some (.tup [],H)
noncomputable def f (rec:Rec) (k:Nat) (a0:Int) (c0b:Nat) (c0o:Nat) (c1b:Nat) (c1o:Nat) (c2b:Nat) (c2o:Nat) (c3b:Nat) (c3o:Nat) (c4b:Nat) (c4o:Nat) (H:Hp):An:=(ldS 1 H c0b c0o).bind fun s1=>bif a0 == (s1.len:Int) then (ldI .i64 H c1b c1o).bind fun n2=>(ldS 1 H c1b (c1o + 1)).bind fun s3=>(ldI .i64 H c1b (c1o + 1 + 1)).bind fun n4=>(ldS 1 H c2b c2o).bind fun s5=>(rec impl_valuesHold.id [.agg [.int .i64 n2,.sl 1 s3,.int .i64 n4],.sl 1 s5] H).bind fun r6=>r6.1.toB.bind fun b7=>bif b7 then (ldS 1 r6.2 c2b c2o).bind fun s8=>l0 rec k k c3b c3o s8 (s8.len:Int) 0 r6.2 else some (.tup [],r6.2) else l1 rec k k a0 c0b c0o c2b c2o c4b c4o 1 H
theorem l0_eq (rec:Rec) (k:Nat):∀ n x4b x4o x17 x18 x19 H,l0 rec k n x4b x4o x17 x18 x19 H=iter (o.at (lbody (sub body [0,1,0,0,1,0,1,0]))) (ex PP o rec k (lbody (sub body [0,1,0,0,1,0,1,0]))) (kAt PP o rec k body [0,1,0,0,1,0,1,0] [] (K0 PP Go.Proofs.Try.f122)) n (St.of 53 [(4,.ptr x4b x4o),(17,.sl 1 x17),(18,.int .i64 x18),(19,.int .i64 x19)] []) H:=by
 intro n
 induction n with
 | zero=>intros; rfl
 | succ n ih=>
  intros x4b x4o x17 x18 x19 H
  simp only [l0,ih,-eq_self]
  kernel_rfl
theorem j2_eq (rec:Rec) (k:Nat) (n1:Nat) (L1:Int→Nat→Nat→Nat→Nat→Nat→Nat→Int→Hp→An) (hL1:∀ x0 x1b x1o x3b x3o x5b x5o x9 H,L1 x0 x1b x1o x3b x3o x5b x5o x9 H=iter (o.at (lbody (sub body [1,1,0]))) (ex PP o rec k (lbody (sub body [1,1,0]))) (kAt PP o rec k body [1,1,0] [] (K0 PP Go.Proofs.Try.f122)) n1 (St.of 53 [(0,.int .i64 x0),(1,.ptr x1b x1o),(3,.ptr x3b x3o),(5,.ptr x5b x5o),(9,.int .i64 x9)] []) H):∀ x0 x1b x1o x3b x3o x5b x5o x9 H,j2 rec k L1 x0 x1b x1o x3b x3o x5b x5o x9 H=ex PP o rec k (sub body [1,1,0,0,1,1]) (St.of 53 [(0,.int .i64 x0),(1,.ptr x1b x1o),(3,.ptr x3b x3o),(5,.ptr x5b x5o),(9,.int .i64 x9)] []) H (kAt PP o rec k body [1,1,0,0,1,1] [n1] (K0 PP Go.Proofs.Try.f122)):=by
 intros x0 x1b x1o x3b x3o x5b x5o x9 H
 unfold j2
 try simp only [hL1,-eq_self]
 kernel_rfl
theorem l1_eq (rec:Rec) (k:Nat):∀ n x0 x1b x1o x3b x3o x5b x5o x9 H,l1 rec k n x0 x1b x1o x3b x3o x5b x5o x9 H=iter (o.at (lbody (sub body [1,1,0]))) (ex PP o rec k (lbody (sub body [1,1,0]))) (kAt PP o rec k body [1,1,0] [] (K0 PP Go.Proofs.Try.f122)) n (St.of 53 [(0,.int .i64 x0),(1,.ptr x1b x1o),(3,.ptr x3b x3o),(5,.ptr x5b x5o),(9,.int .i64 x9)] []) H:=by
 intro n
 induction n with
 | zero=>intros; rfl
 | succ n ih=>
  intros x0 x1b x1o x3b x3o x5b x5o x9 H
  simp only [l1,j2_eq rec k n (l1 rec k n) (fun x0 x1b x1o x3b x3o x5b x5o x9 H=>ih x0 x1b x1o x3b x3o x5b x5o x9 H),ih,-eq_self]
  kernel_rfl
theorem f_eq (rec:Rec) (k:Nat):∀ a0 c0b c0o c1b c1o c2b c2o c3b c3o c4b c4o H,f rec k a0 c0b c0o c1b c1o c2b c2o c3b c3o c4b c4o H=ex PP o rec k body (St.of 53 [(0,.int .i64 a0),(1,.ptr c0b c0o),(2,.ptr c1b c1o),(3,.ptr c2b c2o),(4,.ptr c3b c3o),(5,.ptr c4b c4o)] []) H (K0 PP Go.Proofs.Try.f122):=by
 intros a0 c0b c0o c1b c1o c2b c2o c3b c3o c4b c4o H
 unfold f
 try simp only [l0_eq rec k,l1_eq rec k,-eq_self]
 kernel_rfl
theorem call (k:Nat):∀ a0 c0b c0o c1b c1o c2b c2o c3b c3o c4b c4o H,callF PP orc (k + 1) impl_ruleMasks_1.id [.int .i64 a0,.ptr c0b c0o,.ptr c1b c1o,.ptr c2b c2o,.ptr c3b c3o,.ptr c4b c4o] H=f (callF PP orc k) k a0 c0b c0o c1b c1o c2b c2o c3b c3o c4b c4o H:=by
 intros a0 c0b c0o c1b c1o c2b c2o c3b c3o c4b c4o H
 rw [callF_at (fn:=Go.Proofs.Try.f122) (c:=body) Go.Proofs.Try.func122 (by kernel_rfl) (Nat.le_of_ble_eq_true (by kernel_rfl)),f_eq]
 kernel_rfl
end impl_ruleMasks_1
namespace impl_MasksValid
noncomputable def body:Code:=(Go.Proofs.Try.f23).body.getD .skip
abbrev o:=orc impl_MasksValid.id
abbrev TL2:=Int→Sl→Int→Int→Hp→An
abbrev PhL2 (rec:Rec) (k n2:Nat) (L2:TL2):Prop:=∀ x1 x18 x19 x20 H,L2 x1 x18 x19 x20 H=iter (o.at (lbody (sub body [1,1,0,1,0]))) (ex PP o rec k (lbody (sub body [1,1,0,1,0]))) (kAt PP o rec k body [1,1,0,1,0] [] (K0 PP Go.Proofs.Try.f23)) n2 (St.of 34 [(1,.int .i64 x1),(18,.sl 1 x18),(19,.int .i64 x19),(20,.int .i64 x20)] []) H
noncomputable def j4 (rec:Rec) (k:Nat) (L2:TL2) (x1:Int) (x18:Sl) (x19:Int) (x20:Int) (H:Hp):An:=L2 x1 x18 x19 (IntKind.i64.wrap (x20 + 1)) H
noncomputable def j3 (rec:Rec) (k:Nat) (L2:TL2) (x1:Int) (x18:Sl) (x19:Int) (x20:Int) (x32:Bool) (H:Hp):An:=bif x32 then some (.bool false,H) else j4 rec k L2 x1 x18 x19 x20 H
noncomputable def l2 (rec:Rec) (k:Nat):Nat→Int→Sl→Int→Int→Hp→An
 | 0,_,_,_,_,_=>none
 | n + 1,x1,x18,x19,x20,H=>bif decide (x20 < x19) then bif decide (0 ≤ (x20:Int)) && decide ((x20:Int) < x18.len) then (ldI .i64 H x18.blk (x18.off + (x20:Int).toNat * 1)).bind fun n3=>bif decide (n3 < 0) then j3 rec k (l2 rec k n) x1 x18 x19 x20 true H else (rec impl_allValues.id [.int .i64 x1] H).bind fun r4=>(r4.1.toI .i64).bind fun n5=>j3 rec k (l2 rec k n) x1 x18 x19 x20 ((IntKind.i64.wrap (((BitVec.ofInt IntKind.i64.bits n3 &&& ~~~ (BitVec.ofInt IntKind.i64.bits n5)).toNat:Int))) != 0) r4.2 else none else some (.bool true,H)
noncomputable def j1 (rec:Rec) (k:Nat) (x0:Sl) (x1:Int) (H:Hp):An:=l2 rec k k x1 x0 (x0.len:Int) 0 H
noncomputable def j0 (rec:Rec) (k:Nat) (x0:Sl) (x1:Int) (x17:Bool) (H:Hp):An:=bif x17 then some (.bool false,H) else j1 rec k x0 x1 H
noncomputable def f (rec:Rec) (k:Nat) (a0:Sl) (a1:Int) (H:Hp):An:=(rec impl_sizeOk.id [.int .i64 a1] H).bind fun r1=>r1.1.toB.bind fun b2=>bif !b2 then j0 rec k a0 a1 true r1.2 else j0 rec k a0 a1 ((a0.len:Int) != (IntKind.i64.wrap (a1 * a1))) r1.2
theorem j4_eq (rec:Rec) (k:Nat) (n2:Nat) (L2:TL2) (hL2:PhL2 rec k n2 L2):∀ x1 x18 x19 x20 H,j4 rec k L2 x1 x18 x19 x20 H=ex PP o rec k (sub body [1,1,0,1,0,0,1,1,1]) (St.of 34 [(1,.int .i64 x1),(18,.sl 1 x18),(19,.int .i64 x19),(20,.int .i64 x20)] []) H (kAt PP o rec k body [1,1,0,1,0,0,1,1,1] [n2] (K0 PP Go.Proofs.Try.f23)):=by
 intros x1 x18 x19 x20 H
 unfold j4
 try simp only [hL2,-eq_self]
 kernel_rfl
theorem j3_eq (rec:Rec) (k:Nat) (n2:Nat) (L2:TL2) (hL2:PhL2 rec k n2 L2):∀ x1 x18 x19 x20 x32 H,j3 rec k L2 x1 x18 x19 x20 x32 H=ex PP o rec k (sub body [1,1,0,1,0,0,1,1,0,0,1,1]) (St.of 34 [(1,.int .i64 x1),(18,.sl 1 x18),(19,.int .i64 x19),(20,.int .i64 x20),(32,.bool x32)] []) H (kAt PP o rec k body [1,1,0,1,0,0,1,1,0,0,1,1] [n2] (K0 PP Go.Proofs.Try.f23)):=by
 intros x1 x18 x19 x20 x32 H
 unfold j3
 try simp only [hL2,j4_eq rec k n2 L2 hL2,-eq_self]
 kernel_rfl
theorem l2_eq (rec:Rec) (k:Nat):∀ n x1 x18 x19 x20 H,l2 rec k n x1 x18 x19 x20 H=iter (o.at (lbody (sub body [1,1,0,1,0]))) (ex PP o rec k (lbody (sub body [1,1,0,1,0]))) (kAt PP o rec k body [1,1,0,1,0] [] (K0 PP Go.Proofs.Try.f23)) n (St.of 34 [(1,.int .i64 x1),(18,.sl 1 x18),(19,.int .i64 x19),(20,.int .i64 x20)] []) H:=by
 intro n
 induction n with
 | zero=>intros; rfl
 | succ n ih=>
  intros x1 x18 x19 x20 H
  simp only [l2,j3_eq rec k n (l2 rec k n) (fun x1 x18 x19 x20 H=>ih x1 x18 x19 x20 H),ih,-eq_self]
  kernel_rfl
theorem j1_eq (rec:Rec) (k:Nat):∀ x0 x1 H,j1 rec k x0 x1 H=ex PP o rec k (sub body [1,1]) (St.of 34 [(0,.sl 1 x0),(1,.int .i64 x1)] []) H (kAt PP o rec k body [1,1] [] (K0 PP Go.Proofs.Try.f23)):=by
 intros x0 x1 H
 unfold j1
 try simp only [l2_eq rec k,-eq_self]
 kernel_rfl
theorem j0_eq (rec:Rec) (k:Nat):∀ x0 x1 x17 H,j0 rec k x0 x1 x17 H=ex PP o rec k (sub body [1,0,1]) (St.of 34 [(0,.sl 1 x0),(1,.int .i64 x1),(17,.bool x17)] []) H (kAt PP o rec k body [1,0,1] [] (K0 PP Go.Proofs.Try.f23)):=by
 intros x0 x1 x17 H
 unfold j0
 try simp only [j1_eq rec k,-eq_self]
 kernel_rfl
theorem f_eq (rec:Rec) (k:Nat):∀ a0 a1 H,f rec k a0 a1 H=ex PP o rec k body (St.of 34 [(0,.sl 1 a0),(1,.int .i64 a1)] []) H (K0 PP Go.Proofs.Try.f23):=by
 intros a0 a1 H
 unfold f
 try simp only [j0_eq rec k,-eq_self]
 kernel_rfl
theorem call (k:Nat):∀ a0 a1 H,callF PP orc (k + 1) impl_MasksValid.id [.sl 1 a0,.int .i64 a1] H=f (callF PP orc k) k a0 a1 H:=by
 intros a0 a1 H
 rw [callF_at (fn:=Go.Proofs.Try.f23) (c:=body) Go.Proofs.Try.func23 (by kernel_rfl) (Nat.le_of_ble_eq_true (by kernel_rfl)),f_eq]
 kernel_rfl
end impl_MasksValid
namespace impl_onlyValue
noncomputable def body:Code:=(Go.Proofs.Try.f88).body.getD .skip
abbrev o:=orc impl_onlyValue.id
noncomputable def l0 (rec:Rec) (k:Nat):Nat→Int→Int→Hp→An
 | 0,_,_,_=>none
 | n + 1,x0,x3,H=>bif decide (x3 ≤ 4) then if (x3:Int) < 0 then none else bif x0 == (IntKind.i64.wrap (1 * 2 ^ (min (x3:Int).toNat IntKind.i64.bits))) then some (.int .i64 x3,H) else (l0 rec k n) x0 (IntKind.i64.wrap (x3 + 1)) H else some (.int .i64 0,H)
noncomputable def f (rec:Rec) (k:Nat) (a0:Int) (H:Hp):An:=l0 rec k k a0 1 H
theorem l0_eq (rec:Rec) (k:Nat):∀ n x0 x3 H,l0 rec k n x0 x3 H=iter (o.at (lbody (sub body [1,0,1,0]))) (ex PP o rec k (lbody (sub body [1,0,1,0]))) (kAt PP o rec k body [1,0,1,0] [] (K0 PP Go.Proofs.Try.f88)) n (St.of 13 [(0,.int .i64 x0),(3,.int .i64 x3)] []) H:=by
 intro n
 induction n with
 | zero=>intros; rfl
 | succ n ih=>
  intros x0 x3 H
  simp only [l0,ih,-eq_self]
  kernel_rfl
theorem f_eq (rec:Rec) (k:Nat):∀ a0 H,f rec k a0 H=ex PP o rec k body (St.of 13 [(0,.int .i64 a0)] []) H (K0 PP Go.Proofs.Try.f88):=by
 intros a0 H
 unfold f
 try simp only [l0_eq rec k,-eq_self]
 kernel_rfl
theorem call (k:Nat):∀ a0 H,callF PP orc (k + 1) impl_onlyValue.id [.int .i64 a0] H=f (callF PP orc k) k a0 H:=by
 intros a0 H
 rw [callF_at (fn:=Go.Proofs.Try.f88) (c:=body) Go.Proofs.Try.func88 (by kernel_rfl) (Nat.le_of_ble_eq_true (by kernel_rfl)),f_eq]
 kernel_rfl
end impl_onlyValue

namespace spec_StartMasks
noncomputable def body:Code:=(Go.Proofs.Try.f55).body.getD .skip
abbrev o:=orc spec_StartMasks.id
abbrev TL0:=Sl→Int→Int→Sl→Sl→Hp→An
abbrev PhL0 (rec:Rec) (k n0:Nat) (L0:TL0):Prop:=∀ x3 x4 y1_0 y1_1 y1_2 H,L0 x3 x4 y1_0 y1_1 y1_2 H=iter (o.at (lbody (sub body [1,1,0,1,0]))) (ex PP o rec k (lbody (sub body [1,1,0,1,0]))) (kAt PP o rec k body [1,1,0,1,0] [] (K0 PP Go.Proofs.Try.f55)) n0 (St.of 41 [(1,.lp 1 0),(3,.sl 1 x3),(4,.int .i64 x4)] [(1,[.int .i64 y1_0,.sl 1 y1_1,.sl 3 y1_2])]) H
noncomputable def j3 (rec:Rec) (k:Nat) (x3:Sl) (H:Hp):An:=some (.sl 1 x3,H)
noncomputable def j4 (rec:Rec) (k:Nat) (L0:TL0) (x3:Sl) (x4:Int) (y1_0:Int) (y1_1:Sl) (y1_2:Sl) (H:Hp):An:=L0 x3 (IntKind.i64.wrap (x4 + 1)) y1_0 y1_1 y1_2 H
noncomputable def j2 (rec:Rec) (k:Nat) (L0:TL0) (x3:Sl) (x4:Int) (y1_0:Int) (y1_1:Sl) (y1_2:Sl) (H:Hp):An:=bif decide (0 ≤ (x4:Int)) && decide ((x4:Int) < y1_1.len) then (ldI .i64 H y1_1.blk (y1_1.off + (x4:Int).toNat * 1)).bind fun n3=>bif decide (n3 > 0) then bif decide (0 ≤ (x4:Int)) && decide ((x4:Int) < y1_1.len) then (ldI .i64 H y1_1.blk (y1_1.off + (x4:Int).toNat * 1)).bind fun n4=>if (n4:Int) < 0 then none else (H.app 1 x3 1 [.int .i64 (IntKind.i64.wrap (1 * 2 ^ (min (n4:Int).toNat IntKind.i64.bits)))]).bind fun w5=>j4 rec k L0 w5.1 x4 y1_0 y1_1 y1_2 w5.2 else none else if (IntKind.i64.wrap (y1_0 + 1):Int) < 0 then none else (H.app 1 x3 1 [.int .i64 (IntKind.i64.wrap ((IntKind.i64.wrap (1 * 2 ^ (min (IntKind.i64.wrap (y1_0 + 1):Int).toNat IntKind.i64.bits))) - 2))]).bind fun w6=>j4 rec k L0 w6.1 x4 y1_0 y1_1 y1_2 w6.2 else none
noncomputable def j1 (rec:Rec) (k:Nat) (L0:TL0) (x3:Sl) (x4:Int) (x14:Bool) (y1_0:Int) (y1_1:Sl) (y1_2:Sl) (H:Hp):An:=bif x14 then j2 rec k L0 x3 x4 y1_0 y1_1 y1_2 H else j3 rec k x3 H
noncomputable def l0 (rec:Rec) (k:Nat):Nat→Sl→Int→Int→Sl→Sl→Hp→An
 | 0,_,_,_,_,_,_=>none
 | n + 1,x3,x4,y1_0,y1_1,y1_2,H=>bif decide (x4 < (y1_1.len:Int)) then (rec spec_PuzzleValid.id [.agg [.int .i64 y1_0,.sl 1 y1_1,.sl 3 y1_2]] H).bind fun r1=>r1.1.toB.bind fun b2=>j1 rec k (l0 rec k n) x3 x4 b2 y1_0 y1_1 y1_2 r1.2 else j1 rec k (l0 rec k n) x3 x4 false y1_0 y1_1 y1_2 H
noncomputable def f (rec:Rec) (k:Nat) (a0_0:Int) (a0_1:Sl) (a0_2:Sl) (H:Hp):An:=l0 rec k k (Sl.mk false H.length 0 0) 0 a0_0 a0_1 a0_2 (H ++ [some (Blk.mk false [])])
theorem j3_eq (rec:Rec) (k:Nat):∀ x3 H,j3 rec k x3 H=ex PP o rec k (sub body [1,1,1]) (St.of 41 [(3,.sl 1 x3)] []) H (kAt PP o rec k body [1,1,1] [] (K0 PP Go.Proofs.Try.f55)):=by
 intros x3 H
 unfold j3
 kernel_rfl
theorem j4_eq (rec:Rec) (k:Nat) (n0:Nat) (L0:TL0) (hL0:PhL0 rec k n0 L0):∀ x3 x4 y1_0 y1_1 y1_2 H,j4 rec k L0 x3 x4 y1_0 y1_1 y1_2 H=ex PP o rec k (sub body [1,1,0,1,0,0,1,1]) (St.of 41 [(1,.lp 1 0),(3,.sl 1 x3),(4,.int .i64 x4)] [(1,[.int .i64 y1_0,.sl 1 y1_1,.sl 3 y1_2])]) H (kAt PP o rec k body [1,1,0,1,0,0,1,1] [n0] (K0 PP Go.Proofs.Try.f55)):=by
 intros x3 x4 y1_0 y1_1 y1_2 H
 unfold j4
 try simp only [hL0,-eq_self]
 kernel_rfl
theorem j2_eq (rec:Rec) (k:Nat) (n0:Nat) (L0:TL0) (hL0:PhL0 rec k n0 L0):∀ x3 x4 y1_0 y1_1 y1_2 H,j2 rec k L0 x3 x4 y1_0 y1_1 y1_2 H=ex PP o rec k (sub body [1,1,0,1,0,0,1]) (St.of 41 [(1,.lp 1 0),(3,.sl 1 x3),(4,.int .i64 x4)] [(1,[.int .i64 y1_0,.sl 1 y1_1,.sl 3 y1_2])]) H (kAt PP o rec k body [1,1,0,1,0,0,1] [n0] (K0 PP Go.Proofs.Try.f55)):=by
 intros x3 x4 y1_0 y1_1 y1_2 H
 unfold j2
 try simp only [hL0,j4_eq rec k n0 L0 hL0,-eq_self]
 kernel_rfl
theorem j1_eq (rec:Rec) (k:Nat) (n0:Nat) (L0:TL0) (hL0:PhL0 rec k n0 L0):∀ x3 x4 x14 y1_0 y1_1 y1_2 H,j1 rec k L0 x3 x4 x14 y1_0 y1_1 y1_2 H=ex PP o rec k (sub body [1,1,0,1,0,0,0,1]) (St.of 41 [(1,.lp 1 0),(3,.sl 1 x3),(4,.int .i64 x4),(14,.bool x14)] [(1,[.int .i64 y1_0,.sl 1 y1_1,.sl 3 y1_2])]) H (kAt PP o rec k body [1,1,0,1,0,0,0,1] [n0] (K0 PP Go.Proofs.Try.f55)):=by
 intros x3 x4 x14 y1_0 y1_1 y1_2 H
 unfold j1
 try simp only [hL0,j2_eq rec k n0 L0 hL0,j3_eq rec k,-eq_self]
 kernel_rfl
theorem l0_eq (rec:Rec) (k:Nat):∀ n x3 x4 y1_0 y1_1 y1_2 H,l0 rec k n x3 x4 y1_0 y1_1 y1_2 H=iter (o.at (lbody (sub body [1,1,0,1,0]))) (ex PP o rec k (lbody (sub body [1,1,0,1,0]))) (kAt PP o rec k body [1,1,0,1,0] [] (K0 PP Go.Proofs.Try.f55)) n (St.of 41 [(1,.lp 1 0),(3,.sl 1 x3),(4,.int .i64 x4)] [(1,[.int .i64 y1_0,.sl 1 y1_1,.sl 3 y1_2])]) H:=by
 intro n
 induction n with
 | zero=>intros; rfl
 | succ n ih=>
  intros x3 x4 y1_0 y1_1 y1_2 H
  simp only [l0,j1_eq rec k n (l0 rec k n) (fun x3 x4 y1_0 y1_1 y1_2 H=>ih x3 x4 y1_0 y1_1 y1_2 H),ih,-eq_self]
  kernel_rfl
theorem f_eq (rec:Rec) (k:Nat):∀ a0_0 a0_1 a0_2 H,f rec k a0_0 a0_1 a0_2 H=ex PP o rec k body (St.of 41 [(0,.agg [.int .i64 a0_0,.sl 1 a0_1,.sl 3 a0_2])] []) H (K0 PP Go.Proofs.Try.f55):=by
 intros a0_0 a0_1 a0_2 H
 unfold f
 try simp only [l0_eq rec k,-eq_self]
 kernel_rfl
theorem call (k:Nat):∀ a0_0 a0_1 a0_2 H,callF PP orc (k + 1) spec_StartMasks.id [.agg [.int .i64 a0_0,.sl 1 a0_1,.sl 3 a0_2]] H=f (callF PP orc k) k a0_0 a0_1 a0_2 H:=by
 intros a0_0 a0_1 a0_2 H
 rw [callF_at (fn:=Go.Proofs.Try.f55) (c:=body) Go.Proofs.Try.func55 (by kernel_rfl) (Nat.le_of_ble_eq_true (by kernel_rfl)),f_eq]
 kernel_rfl
end spec_StartMasks
namespace impl_NarrowSingles
noncomputable def body:Code:=(Go.Proofs.Try.f37).body.getD .skip
abbrev o:=orc impl_NarrowSingles.id
abbrev TL0:=Int→Sl→Sl→Int→Int→Hp→An
abbrev TL2:=Int→Sl→Int→Int→Sl→Int→Int→Int→Int→Hp→An
abbrev PhL0 (rec:Rec) (k n0:Nat) (L0:TL0):Prop:=∀ x1 x5 x17 x18 x19 H,L0 x1 x5 x17 x18 x19 H=iter (o.at (lbody (sub body [1,1,1,0,1,0]))) (ex PP o rec k (lbody (sub body [1,1,1,0,1,0]))) (kAt PP o rec k body [1,1,1,0,1,0] [] (K0 PP Go.Proofs.Try.f37)) n0 (St.of 65 [(1,.int .i64 x1),(5,.sl 1 x5),(17,.sl 1 x17),(18,.int .i64 x18),(19,.int .i64 x19)] []) H
abbrev PhL2 (rec:Rec) (k n0 n2:Nat) (L2:TL2):Prop:=∀ x1 x5 x6 x7 x17 x18 x19 x27 x28 H,L2 x1 x5 x6 x7 x17 x18 x19 x27 x28 H=iter (o.at (lbody (sub body [1,1,1,0,1,0,0,1,1,0,0,1,1,1,0]))) (ex PP o rec k (lbody (sub body [1,1,1,0,1,0,0,1,1,0,0,1,1,1,0]))) (kAt PP o rec k body [1,1,1,0,1,0,0,1,1,0,0,1,1,1,0] [n0] (K0 PP Go.Proofs.Try.f37)) n2 (St.of 65 [(1,.int .i64 x1),(5,.sl 1 x5),(6,.int .i64 x6),(7,.int .i64 x7),(17,.sl 1 x17),(18,.int .i64 x18),(19,.int .i64 x19),(27,.int .i64 x27),(28,.int .i64 x28)] []) H
noncomputable def j1 (rec:Rec) (k:Nat) (L0:TL0) (x1:Int) (x5:Sl) (x17:Sl) (x18:Int) (x19:Int) (H:Hp):An:=L0 x1 x5 x17 x18 (IntKind.i64.wrap (x19 + 1)) H
noncomputable def j3 (rec:Rec) (k:Nat) (x5:Sl) (H:Hp):An:=some (.sl 1 x5,H)
noncomputable def j5 (rec:Rec) (k:Nat) (L0:TL0) (L2:TL2) (L4:Int→Sl→Int→Int→Sl→Int→Int→Int→Int→Sl→Int→Int→Hp→An) (x1:Int) (x5:Sl) (x6:Int) (x7:Int) (x17:Sl) (x18:Int) (x19:Int) (x27:Int) (x28:Int) (x45:Sl) (x46:Int) (x47:Int) (H:Hp):An:=L4 x1 x5 x6 x7 x17 x18 x19 x27 x28 x45 x46 (IntKind.i64.wrap (x47 + 1)) H
noncomputable def j6 (rec:Rec) (k:Nat) (L0:TL0) (L2:TL2) (x1:Int) (x5:Sl) (x6:Int) (x7:Int) (x17:Sl) (x18:Int) (x19:Int) (x27:Int) (x28:Int) (H:Hp):An:=L2 x1 x5 x6 x7 x17 x18 x19 x27 (IntKind.i64.wrap (x28 + 1)) H
noncomputable def l4 (rec:Rec) (k:Nat) (L0:TL0) (L2:TL2):Nat→Int→Sl→Int→Int→Sl→Int→Int→Int→Int→Sl→Int→Int→Hp→An
 | 0,_,_,_,_,_,_,_,_,_,_,_,_,_=>none
 | n + 1,x1,x5,x6,x7,x17,x18,x19,x27,x28,x45,x46,x47,H=>bif decide (x47 < x46) then bif decide (0 ≤ (x47:Int)) && decide ((x47:Int) < x45.len) then (ldI .i64 H x45.blk (x45.off + (x47:Int).toNat * 1)).bind fun n8=>bif n8 != x6 then bif decide (0 ≤ (n8:Int)) && decide ((n8:Int) < x5.len) then (ldI .i64 H x5.blk (x5.off + (n8:Int).toNat * 1)).bind fun n9=>bif decide (0 ≤ (n8:Int)) && decide ((n8:Int) < x5.len) then (H.sto x5.blk (x5.off + (n8:Int).toNat * 1) [.int .i64 (IntKind.i64.wrap (((BitVec.ofInt IntKind.i64.bits n9 &&& ~~~ (BitVec.ofInt IntKind.i64.bits x7)).toNat:Int)))]).bind fun H10=>j5 rec k L0 L2 (l4 rec k L0 L2 n) x1 x5 x6 x7 x17 x18 x19 x27 x28 x45 x46 x47 H10 else none else none else j5 rec k L0 L2 (l4 rec k L0 L2 n) x1 x5 x6 x7 x17 x18 x19 x27 x28 x45 x46 x47 H else none else j6 rec k L0 L2 x1 x5 x6 x7 x17 x18 x19 x27 x28 H
noncomputable def l2 (rec:Rec) (k:Nat) (L0:TL0):Nat→Int→Sl→Int→Int→Sl→Int→Int→Int→Int→Hp→An
 | 0,_,_,_,_,_,_,_,_,_,_=>none
 | n + 1,x1,x5,x6,x7,x17,x18,x19,x27,x28,H=>bif decide (x28 < x27) then if (x1:Int)=0 then none else if (x1:Int)=0 then none else l4 rec k L0 (l2 rec k L0 n) k x1 x5 x6 x7 x17 x18 x19 x27 x28 (Sl.mk false H.length 0 2) ((Sl.mk false H.length 0 2).len:Int) 0 (H ++ [some (Blk.mk false [.int .i64 (IntKind.i64.wrap ((IntKind.i64.wrap ((IntKind.i64.wrap ((x6:Int).tdiv x1)) * x1)) + x28)),.int .i64 (IntKind.i64.wrap ((IntKind.i64.wrap (x28 * x1)) + ((x6:Int).tmod x1)))])]) else j1 rec k L0 x1 x5 x17 x18 x19 H
noncomputable def l0 (rec:Rec) (k:Nat):Nat→Int→Sl→Sl→Int→Int→Hp→An
 | 0,_,_,_,_,_,_=>none
 | n + 1,x1,x5,x17,x18,x19,H=>bif decide (x19 < x18) then bif decide (0 ≤ (x19:Int)) && decide ((x19:Int) < x17.len) then (ldI .i64 H x17.blk (x17.off + (x19:Int).toNat * 1)).bind fun n5=>(rec impl_onlyValue.id [.int .i64 n5] H).bind fun r6=>(r6.1.toI .i64).bind fun n7=>bif n7 == 0 then j1 rec k (l0 rec k n) x1 x5 x17 x18 x19 r6.2 else l2 rec k (l0 rec k n) k x1 x5 x19 n5 x17 x18 x19 x1 0 r6.2 else none else j3 rec k x5 H
noncomputable def f (rec:Rec) (k:Nat) (a0:Sl) (a1:Int) (H:Hp):An:=(rec impl_MasksValid.id [.sl 1 a0,.int .i64 a1] H).bind fun r1=>r1.1.toB.bind fun b2=>bif !b2 then some (.sl 1 Sl.none,r1.2) else (rec slices_Clone_int.id [.sl 1 a0] r1.2).bind fun r3=>(r3.1.toS 1).bind fun s4=>l0 rec k k a1 s4 a0 (a0.len:Int) 0 r3.2
theorem j1_eq (rec:Rec) (k:Nat) (n0:Nat) (L0:TL0) (hL0:PhL0 rec k n0 L0):∀ x1 x5 x17 x18 x19 H,j1 rec k L0 x1 x5 x17 x18 x19 H=ex PP o rec k (sub body [1,1,1,0,1,0,0,1,1,1]) (St.of 65 [(1,.int .i64 x1),(5,.sl 1 x5),(17,.sl 1 x17),(18,.int .i64 x18),(19,.int .i64 x19)] []) H (kAt PP o rec k body [1,1,1,0,1,0,0,1,1,1] [n0] (K0 PP Go.Proofs.Try.f37)):=by
 intros x1 x5 x17 x18 x19 H
 unfold j1
 try simp only [hL0,-eq_self]
 kernel_rfl
theorem j3_eq (rec:Rec) (k:Nat):∀ x5 H,j3 rec k x5 H=ex PP o rec k (sub body [1,1,1,1]) (St.of 65 [(5,.sl 1 x5)] []) H (kAt PP o rec k body [1,1,1,1] [] (K0 PP Go.Proofs.Try.f37)):=by
 intros x5 H
 unfold j3
 kernel_rfl
theorem j5_eq (rec:Rec) (k:Nat) (n0:Nat) (L0:TL0) (hL0:PhL0 rec k n0 L0) (n2:Nat) (L2:TL2) (hL2:PhL2 rec k n0 n2 L2) (n4:Nat) (L4:Int→Sl→Int→Int→Sl→Int→Int→Int→Int→Sl→Int→Int→Hp→An) (hL4:∀ x1 x5 x6 x7 x17 x18 x19 x27 x28 x45 x46 x47 H,L4 x1 x5 x6 x7 x17 x18 x19 x27 x28 x45 x46 x47 H=iter (o.at (lbody (sub body [1,1,1,0,1,0,0,1,1,0,0,1,1,1,0,0,1,1,0,0,1,1,0]))) (ex PP o rec k (lbody (sub body [1,1,1,0,1,0,0,1,1,0,0,1,1,1,0,0,1,1,0,0,1,1,0]))) (kAt PP o rec k body [1,1,1,0,1,0,0,1,1,0,0,1,1,1,0,0,1,1,0,0,1,1,0] [n0,n2] (K0 PP Go.Proofs.Try.f37)) n4 (St.of 65 [(1,.int .i64 x1),(5,.sl 1 x5),(6,.int .i64 x6),(7,.int .i64 x7),(17,.sl 1 x17),(18,.int .i64 x18),(19,.int .i64 x19),(27,.int .i64 x27),(28,.int .i64 x28),(45,.sl 1 x45),(46,.int .i64 x46),(47,.int .i64 x47)] []) H):∀ x1 x5 x6 x7 x17 x18 x19 x27 x28 x45 x46 x47 H,j5 rec k L0 L2 L4 x1 x5 x6 x7 x17 x18 x19 x27 x28 x45 x46 x47 H=ex PP o rec k (sub body [1,1,1,0,1,0,0,1,1,0,0,1,1,1,0,0,1,1,0,0,1,1,0,0,1,1,1]) (St.of 65 [(1,.int .i64 x1),(5,.sl 1 x5),(6,.int .i64 x6),(7,.int .i64 x7),(17,.sl 1 x17),(18,.int .i64 x18),(19,.int .i64 x19),(27,.int .i64 x27),(28,.int .i64 x28),(45,.sl 1 x45),(46,.int .i64 x46),(47,.int .i64 x47)] []) H (kAt PP o rec k body [1,1,1,0,1,0,0,1,1,0,0,1,1,1,0,0,1,1,0,0,1,1,0,0,1,1,1] [n0,n2,n4] (K0 PP Go.Proofs.Try.f37)):=by
 intros x1 x5 x6 x7 x17 x18 x19 x27 x28 x45 x46 x47 H
 unfold j5
 try simp only [hL0,hL2,hL4,-eq_self]
 kernel_rfl
theorem j6_eq (rec:Rec) (k:Nat) (n0:Nat) (L0:TL0) (hL0:PhL0 rec k n0 L0) (n2:Nat) (L2:TL2) (hL2:PhL2 rec k n0 n2 L2):∀ x1 x5 x6 x7 x17 x18 x19 x27 x28 H,j6 rec k L0 L2 x1 x5 x6 x7 x17 x18 x19 x27 x28 H=ex PP o rec k (sub body [1,1,1,0,1,0,0,1,1,0,0,1,1,1,0,0,1,1,1]) (St.of 65 [(1,.int .i64 x1),(5,.sl 1 x5),(6,.int .i64 x6),(7,.int .i64 x7),(17,.sl 1 x17),(18,.int .i64 x18),(19,.int .i64 x19),(27,.int .i64 x27),(28,.int .i64 x28)] []) H (kAt PP o rec k body [1,1,1,0,1,0,0,1,1,0,0,1,1,1,0,0,1,1,1] [n0,n2] (K0 PP Go.Proofs.Try.f37)):=by
 intros x1 x5 x6 x7 x17 x18 x19 x27 x28 H
 unfold j6
 try simp only [hL0,hL2,-eq_self]
 kernel_rfl
theorem l4_eq (rec:Rec) (k:Nat) (n0:Nat) (L0:TL0) (hL0:PhL0 rec k n0 L0) (n2:Nat) (L2:TL2) (hL2:PhL2 rec k n0 n2 L2):∀ n x1 x5 x6 x7 x17 x18 x19 x27 x28 x45 x46 x47 H,l4 rec k L0 L2 n x1 x5 x6 x7 x17 x18 x19 x27 x28 x45 x46 x47 H=iter (o.at (lbody (sub body [1,1,1,0,1,0,0,1,1,0,0,1,1,1,0,0,1,1,0,0,1,1,0]))) (ex PP o rec k (lbody (sub body [1,1,1,0,1,0,0,1,1,0,0,1,1,1,0,0,1,1,0,0,1,1,0]))) (kAt PP o rec k body [1,1,1,0,1,0,0,1,1,0,0,1,1,1,0,0,1,1,0,0,1,1,0] [n0,n2] (K0 PP Go.Proofs.Try.f37)) n (St.of 65 [(1,.int .i64 x1),(5,.sl 1 x5),(6,.int .i64 x6),(7,.int .i64 x7),(17,.sl 1 x17),(18,.int .i64 x18),(19,.int .i64 x19),(27,.int .i64 x27),(28,.int .i64 x28),(45,.sl 1 x45),(46,.int .i64 x46),(47,.int .i64 x47)] []) H:=by
 intro n
 induction n with
 | zero=>intros; rfl
 | succ n ih=>
  intros x1 x5 x6 x7 x17 x18 x19 x27 x28 x45 x46 x47 H
  simp only [l4,hL0,hL2,j5_eq rec k n0 L0 hL0 n2 L2 hL2 n (l4 rec k L0 L2 n) (fun x1 x5 x6 x7 x17 x18 x19 x27 x28 x45 x46 x47 H=>ih x1 x5 x6 x7 x17 x18 x19 x27 x28 x45 x46 x47 H),j6_eq rec k n0 L0 hL0 n2 L2 hL2,ih,-eq_self]
  kernel_rfl
theorem l2_eq (rec:Rec) (k:Nat) (n0:Nat) (L0:TL0) (hL0:PhL0 rec k n0 L0):∀ n x1 x5 x6 x7 x17 x18 x19 x27 x28 H,l2 rec k L0 n x1 x5 x6 x7 x17 x18 x19 x27 x28 H=iter (o.at (lbody (sub body [1,1,1,0,1,0,0,1,1,0,0,1,1,1,0]))) (ex PP o rec k (lbody (sub body [1,1,1,0,1,0,0,1,1,0,0,1,1,1,0]))) (kAt PP o rec k body [1,1,1,0,1,0,0,1,1,0,0,1,1,1,0] [n0] (K0 PP Go.Proofs.Try.f37)) n (St.of 65 [(1,.int .i64 x1),(5,.sl 1 x5),(6,.int .i64 x6),(7,.int .i64 x7),(17,.sl 1 x17),(18,.int .i64 x18),(19,.int .i64 x19),(27,.int .i64 x27),(28,.int .i64 x28)] []) H:=by
 intro n
 induction n with
 | zero=>intros; rfl
 | succ n ih=>
  intros x1 x5 x6 x7 x17 x18 x19 x27 x28 H
  simp only [l2,hL0,l4_eq rec k n0 L0 hL0 n (l2 rec k L0 n) (fun x1 x5 x6 x7 x17 x18 x19 x27 x28 H=>ih x1 x5 x6 x7 x17 x18 x19 x27 x28 H),j1_eq rec k n0 L0 hL0,ih,-eq_self]
  kernel_rfl
theorem l0_eq (rec:Rec) (k:Nat):∀ n x1 x5 x17 x18 x19 H,l0 rec k n x1 x5 x17 x18 x19 H=iter (o.at (lbody (sub body [1,1,1,0,1,0]))) (ex PP o rec k (lbody (sub body [1,1,1,0,1,0]))) (kAt PP o rec k body [1,1,1,0,1,0] [] (K0 PP Go.Proofs.Try.f37)) n (St.of 65 [(1,.int .i64 x1),(5,.sl 1 x5),(17,.sl 1 x17),(18,.int .i64 x18),(19,.int .i64 x19)] []) H:=by
 intro n
 induction n with
 | zero=>intros; rfl
 | succ n ih=>
  intros x1 x5 x17 x18 x19 H
  simp only [l0,j1_eq rec k n (l0 rec k n) (fun x1 x5 x17 x18 x19 H=>ih x1 x5 x17 x18 x19 H),l2_eq rec k n (l0 rec k n) (fun x1 x5 x17 x18 x19 H=>ih x1 x5 x17 x18 x19 H),j3_eq rec k,ih,-eq_self]
  kernel_rfl
theorem f_eq (rec:Rec) (k:Nat):∀ a0 a1 H,f rec k a0 a1 H=ex PP o rec k body (St.of 65 [(0,.sl 1 a0),(1,.int .i64 a1)] []) H (K0 PP Go.Proofs.Try.f37):=by
 intros a0 a1 H
 unfold f
 try simp only [l0_eq rec k,-eq_self]
 kernel_rfl
theorem call (k:Nat):∀ a0 a1 H,callF PP orc (k + 1) impl_NarrowSingles.id [.sl 1 a0,.int .i64 a1] H=f (callF PP orc k) k a0 a1 H:=by
 intros a0 a1 H
 rw [callF_at (fn:=Go.Proofs.Try.f37) (c:=body) Go.Proofs.Try.func37 (by kernel_rfl) (Nat.le_of_ble_eq_true (by kernel_rfl)),f_eq]
 kernel_rfl
end impl_NarrowSingles
namespace impl_CandidatesOf
noncomputable def body:Code:=(Go.Proofs.Try.f57).body.getD .skip
abbrev o:=orc impl_CandidatesOf.id
abbrev TL0:=Sl→Int→Sl→Sl→Int→Int→Hp→An
abbrev PhL0 (rec:Rec) (k n0:Nat) (L0:TL0):Prop:=∀ x0 x1 x5 x17 x18 x19 H,L0 x0 x1 x5 x17 x18 x19 H=iter (o.at (lbody (sub body [1,1,1,0,1,0]))) (ex PP o rec k (lbody (sub body [1,1,1,0,1,0]))) (kAt PP o rec k body [1,1,1,0,1,0] [] (K0 PP Go.Proofs.Try.f57)) n0 (St.of 69 [(0,.sl 1 x0),(1,.int .i64 x1),(5,.sl 1 x5),(17,.sl 1 x17),(18,.int .i64 x18),(19,.int .i64 x19)] []) H
noncomputable def j1 (rec:Rec) (k:Nat) (L0:TL0) (x0:Sl) (x1:Int) (x5:Sl) (x17:Sl) (x18:Int) (x19:Int) (H:Hp):An:=L0 x0 x1 x5 x17 x18 (IntKind.i64.wrap (x19 + 1)) H
noncomputable def j3 (rec:Rec) (k:Nat) (x5:Sl) (H:Hp):An:=some (.sl 1 x5,H)
noncomputable def j4 (rec:Rec) (k:Nat) (L0:TL0) (x0:Sl) (x1:Int) (x5:Sl) (x6:Int) (x8:Int) (x17:Sl) (x18:Int) (x19:Int) (H:Hp):An:=bif decide (0 ≤ (x6:Int)) && decide ((x6:Int) < x5.len) then (H.sto x5.blk (x5.off + (x6:Int).toNat * 1) [.int .i64 x8]).bind fun H9=>j1 rec k L0 x0 x1 x5 x17 x18 x19 H9 else none
noncomputable def l2 (rec:Rec) (k:Nat) (L0:TL0):Nat→Sl→Int→Sl→Int→Int→Sl→Int→Int→Int→Int→Hp→An
 | 0,_,_,_,_,_,_,_,_,_,_,_=>none
 | n + 1,x0,x1,x5,x6,x8,x17,x18,x19,x33,x34,H=>bif decide (x34 < x33) then if (x1:Int)=0 then none else bif decide (0 ≤ (IntKind.i64.wrap ((IntKind.i64.wrap ((IntKind.i64.wrap ((x6:Int).tdiv x1)) * x1)) + x34):Int)) && decide ((IntKind.i64.wrap ((IntKind.i64.wrap ((IntKind.i64.wrap ((x6:Int).tdiv x1)) * x1)) + x34):Int) < x0.len) then (ldI .i64 H x0.blk (x0.off + (IntKind.i64.wrap ((IntKind.i64.wrap ((IntKind.i64.wrap ((x6:Int).tdiv x1)) * x1)) + x34):Int).toNat * 1)).bind fun n7=>if (n7:Int) < 0 then none else if (x1:Int)=0 then none else bif decide (0 ≤ (IntKind.i64.wrap ((IntKind.i64.wrap (x34 * x1)) + ((x6:Int).tmod x1)):Int)) && decide ((IntKind.i64.wrap ((IntKind.i64.wrap (x34 * x1)) + ((x6:Int).tmod x1)):Int) < x0.len) then (ldI .i64 H x0.blk (x0.off + (IntKind.i64.wrap ((IntKind.i64.wrap (x34 * x1)) + ((x6:Int).tmod x1)):Int).toNat * 1)).bind fun n8=>if (n8:Int) < 0 then none else (l2 rec k L0 n) x0 x1 x5 x6 (IntKind.i64.wrap (((BitVec.ofInt IntKind.i64.bits x8 &&& ~~~ (BitVec.ofInt IntKind.i64.bits (IntKind.i64.wrap (((BitVec.ofInt IntKind.i64.bits (IntKind.i64.wrap (1 * 2 ^ (min (n7:Int).toNat IntKind.i64.bits))) ||| BitVec.ofInt IntKind.i64.bits (IntKind.i64.wrap (1 * 2 ^ (min (n8:Int).toNat IntKind.i64.bits)))).toNat:Int))))).toNat:Int))) x17 x18 x19 x33 (IntKind.i64.wrap (x34 + 1)) H else none else none else j4 rec k L0 x0 x1 x5 x6 x8 x17 x18 x19 H
noncomputable def l0 (rec:Rec) (k:Nat):Nat→Sl→Int→Sl→Sl→Int→Int→Hp→An
 | 0,_,_,_,_,_,_,_=>none
 | n + 1,x0,x1,x5,x17,x18,x19,H=>bif decide (x19 < x18) then bif decide (0 ≤ (x19:Int)) && decide ((x19:Int) < x17.len) then (ldI .i64 H x17.blk (x17.off + (x19:Int).toNat * 1)).bind fun n3=>bif decide (n3 > 0) then if (n3:Int) < 0 then none else bif decide (0 ≤ (x19:Int)) && decide ((x19:Int) < x5.len) then (H.sto x5.blk (x5.off + (x19:Int).toNat * 1) [.int .i64 (IntKind.i64.wrap (1 * 2 ^ (min (n3:Int).toNat IntKind.i64.bits)))]).bind fun H4=>j1 rec k (l0 rec k n) x0 x1 x5 x17 x18 x19 H4 else none else (rec impl_allValues.id [.int .i64 x1] H).bind fun r5=>(r5.1.toI .i64).bind fun n6=>l2 rec k (l0 rec k n) k x0 x1 x5 x19 n6 x17 x18 x19 x1 0 r5.2 else none else j3 rec k x5 H
noncomputable def f (rec:Rec) (k:Nat) (a0:Sl) (a1:Int) (H:Hp):An:=(rec impl_GridValid.id [.sl 1 a0,.int .i64 a1] H).bind fun r1=>r1.1.toB.bind fun b2=>bif !b2 then some (.sl 1 Sl.none,r1.2) else if 0 ≤ ((a0.len:Int):Int)∧((a0.len:Int):Int) ≤ (a0.len:Int)∧((a0.len:Int):Int) ≤ 1073741824∧8 ≤ 8192∧0 < 1 then l0 rec k k a0 a1 (Sl.mk false r1.2.length 0 ((a0.len:Int):Int).toNat) a0 (a0.len:Int) 0 (r1.2 ++ [some (Blk.mk false (List.replicate ((a0.len:Int):Int).toNat [.int .i64 0]).flatten)]) else none
theorem j1_eq (rec:Rec) (k:Nat) (n0:Nat) (L0:TL0) (hL0:PhL0 rec k n0 L0):∀ x0 x1 x5 x17 x18 x19 H,j1 rec k L0 x0 x1 x5 x17 x18 x19 H=ex PP o rec k (sub body [1,1,1,0,1,0,0,1,1,1]) (St.of 69 [(0,.sl 1 x0),(1,.int .i64 x1),(5,.sl 1 x5),(17,.sl 1 x17),(18,.int .i64 x18),(19,.int .i64 x19)] []) H (kAt PP o rec k body [1,1,1,0,1,0,0,1,1,1] [n0] (K0 PP Go.Proofs.Try.f57)):=by
 intros x0 x1 x5 x17 x18 x19 H
 unfold j1
 try simp only [hL0,-eq_self]
 kernel_rfl
theorem j3_eq (rec:Rec) (k:Nat):∀ x5 H,j3 rec k x5 H=ex PP o rec k (sub body [1,1,1,1]) (St.of 69 [(5,.sl 1 x5)] []) H (kAt PP o rec k body [1,1,1,1] [] (K0 PP Go.Proofs.Try.f57)):=by
 intros x5 H
 unfold j3
 kernel_rfl
theorem j4_eq (rec:Rec) (k:Nat) (n0:Nat) (L0:TL0) (hL0:PhL0 rec k n0 L0):∀ x0 x1 x5 x6 x8 x17 x18 x19 H,j4 rec k L0 x0 x1 x5 x6 x8 x17 x18 x19 H=ex PP o rec k (sub body [1,1,1,0,1,0,0,1,1,0,0,1,1,1,1]) (St.of 69 [(0,.sl 1 x0),(1,.int .i64 x1),(5,.sl 1 x5),(6,.int .i64 x6),(8,.int .i64 x8),(17,.sl 1 x17),(18,.int .i64 x18),(19,.int .i64 x19)] []) H (kAt PP o rec k body [1,1,1,0,1,0,0,1,1,0,0,1,1,1,1] [n0] (K0 PP Go.Proofs.Try.f57)):=by
 intros x0 x1 x5 x6 x8 x17 x18 x19 H
 unfold j4
 try simp only [hL0,j1_eq rec k n0 L0 hL0,-eq_self]
 kernel_rfl
theorem l2_eq (rec:Rec) (k:Nat) (n0:Nat) (L0:TL0) (hL0:PhL0 rec k n0 L0):∀ n x0 x1 x5 x6 x8 x17 x18 x19 x33 x34 H,l2 rec k L0 n x0 x1 x5 x6 x8 x17 x18 x19 x33 x34 H=iter (o.at (lbody (sub body [1,1,1,0,1,0,0,1,1,0,0,1,1,1,0,1,0]))) (ex PP o rec k (lbody (sub body [1,1,1,0,1,0,0,1,1,0,0,1,1,1,0,1,0]))) (kAt PP o rec k body [1,1,1,0,1,0,0,1,1,0,0,1,1,1,0,1,0] [n0] (K0 PP Go.Proofs.Try.f57)) n (St.of 69 [(0,.sl 1 x0),(1,.int .i64 x1),(5,.sl 1 x5),(6,.int .i64 x6),(8,.int .i64 x8),(17,.sl 1 x17),(18,.int .i64 x18),(19,.int .i64 x19),(33,.int .i64 x33),(34,.int .i64 x34)] []) H:=by
 intro n
 induction n with
 | zero=>intros; rfl
 | succ n ih=>
  intros x0 x1 x5 x6 x8 x17 x18 x19 x33 x34 H
  simp only [l2,hL0,j4_eq rec k n0 L0 hL0,ih,-eq_self]
  kernel_rfl
theorem l0_eq (rec:Rec) (k:Nat):∀ n x0 x1 x5 x17 x18 x19 H,l0 rec k n x0 x1 x5 x17 x18 x19 H=iter (o.at (lbody (sub body [1,1,1,0,1,0]))) (ex PP o rec k (lbody (sub body [1,1,1,0,1,0]))) (kAt PP o rec k body [1,1,1,0,1,0] [] (K0 PP Go.Proofs.Try.f57)) n (St.of 69 [(0,.sl 1 x0),(1,.int .i64 x1),(5,.sl 1 x5),(17,.sl 1 x17),(18,.int .i64 x18),(19,.int .i64 x19)] []) H:=by
 intro n
 induction n with
 | zero=>intros; rfl
 | succ n ih=>
  intros x0 x1 x5 x17 x18 x19 H
  simp only [l0,j1_eq rec k n (l0 rec k n) (fun x0 x1 x5 x17 x18 x19 H=>ih x0 x1 x5 x17 x18 x19 H),l2_eq rec k n (l0 rec k n) (fun x0 x1 x5 x17 x18 x19 H=>ih x0 x1 x5 x17 x18 x19 H),j3_eq rec k,ih,-eq_self]
  kernel_rfl
theorem f_eq (rec:Rec) (k:Nat):∀ a0 a1 H,f rec k a0 a1 H=ex PP o rec k body (St.of 69 [(0,.sl 1 a0),(1,.int .i64 a1)] []) H (K0 PP Go.Proofs.Try.f57):=by
 intros a0 a1 H
 unfold f
 try simp only [l0_eq rec k,-eq_self]
 kernel_rfl
theorem call (k:Nat):∀ a0 a1 H,callF PP orc (k + 1) impl_CandidatesOf.id [.sl 1 a0,.int .i64 a1] H=f (callF PP orc k) k a0 a1 H:=by
 intros a0 a1 H
 rw [callF_at (fn:=Go.Proofs.Try.f57) (c:=body) Go.Proofs.Try.func57 (by kernel_rfl) (Nat.le_of_ble_eq_true (by kernel_rfl)),f_eq]
 kernel_rfl
end impl_CandidatesOf






end Go.Proofs.Ytjojhbdghhmeeaa.Rp
