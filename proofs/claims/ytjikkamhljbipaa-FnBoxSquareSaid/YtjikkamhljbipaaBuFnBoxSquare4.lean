/- Texts for the row of the law FnBoxSquare, part 4: the plain machine, the program's functions on it, what they come to. No conditions. -/
import Derived.Test.YtjikkamhljbipaaAb
import Derived.Test.YtjikkamhljbipaaOr
set_option linter.unusedVariables false
set_option linter.unusedSimpArgs false
set_option maxRecDepth 100000
namespace Go.Proofs.Ytjikkamhljbipaa.Rp
open Go Go.Proofs.Ytjikkamhljbipaa.Ab
namespace impl_solutions
noncomputable def body:Code:=(Go.Proofs.Try.f53).body.getD .skip
noncomputable def f (rec:Rec) (k:Nat) (a0_0:Int) (a0_1:Sl) (a0_2:Sl) (a1:Sl) (a2f:Nat) (a2c:List AV) (H:Hp):An:=(rec slices_Clone_int.id [.sl 1 a1] (H ++ [some (Blk.mk false [.int .i64 a0_0,.sl 1 a0_1,.sl 3 a0_2])] ++ [some (Blk.mk false [.fn a2f a2c])])).bind fun r1=>(r1.1.toS 1).bind fun s2=>((r1.2 ++ [some (Blk.mk false [.sl 1 Sl.none])]).sto r1.2.length 0 [.sl 1 s2]).bind fun H3=>(ldI .i64 H3 H.length 0).bind fun n4=>(ldS 1 H3 H.length (0 + 1)).bind fun s5=>(ldS 3 H3 H.length (0 + 1 + 1)).bind fun s6=>(ldS 1 H3 r1.2.length 0).bind fun s7=>(rec impl_PuzzleFits.id [.agg [.int .i64 n4,.sl 1 s5,.sl 3 s6],.sl 1 s7] H3).bind fun r8=>r8.1.toB.bind fun b9=>bif !b9 then some (.tup [],r8.2) else (ldI .i64 r8.2 H.length (0 + 0)).bind fun n10=>((r8.2 ++ [some (Blk.mk false [.int .i64 0])]).sto r8.2.length 0 [.int .i64 n10]).bind fun H11=>((H11 ++ [some (Blk.mk false [.nilf])]).sto H11.length 0 [.fn impl_solutions_1.id [.ptr r1.2.length 0,.ptr ((H ++ [some (Blk.mk false [.int .i64 a0_0,.sl 1 a0_1,.sl 3 a0_2])]).length) 0,.ptr H11.length 0,.ptr r8.2.length 0,.ptr H.length 0]]).bind fun H12=>(ldF H12 H11.length 0).bind fun q13=>bif okF Go.Proofs.Try.prog q13.1 && ([.int .i64 0] ++ q13.2:List AV).all AV.glob then (rec q13.1 ([.int .i64 0] ++ q13.2) H12).bind fun r14=>r14.1.toB.bind fun b15=>some (.tup [],r14.2) else none
theorem f_eq (rec:Rec) (k:Nat):∀ a0_0 a0_1 a0_2 a1 a2f a2c H,f rec k a0_0 a0_1 a0_2 a1 a2f a2c H=ex PP (orc impl_solutions.id) rec k body (St.of 20 [(0,.agg [.int .i64 a0_0,.sl 1 a0_1,.sl 3 a0_2]),(1,.sl 1 a1),(2,.fn a2f a2c)] []) H (K0 PP Go.Proofs.Try.f53):=by
 intros a0_0 a0_1 a0_2 a1 a2f a2c H
 unfold f
 kernel_rfl
theorem call (k:Nat):∀ a0_0 a0_1 a0_2 a1 a2f a2c H,callF PP orc (k + 1) impl_solutions.id [.agg [.int .i64 a0_0,.sl 1 a0_1,.sl 3 a0_2],.sl 1 a1,.fn a2f a2c] H=f (callF PP orc k) k a0_0 a0_1 a0_2 a1 a2f a2c H:=by
 intros a0_0 a0_1 a0_2 a1 a2f a2c H
 rw [callF_at (fn:=Go.Proofs.Try.f53) (c:=body) Go.Proofs.Try.func53 (by kernel_rfl) (Nat.le_of_ble_eq_true (by kernel_rfl)),f_eq]
 kernel_rfl
end impl_solutions
namespace impl_solutions_1
noncomputable def body:Code:=(Go.Proofs.Try.f83).body.getD .skip
abbrev o:=orc impl_solutions_1.id
abbrev TL0:=Int→Nat→Nat→Nat→Nat→Nat→Nat→Nat→Nat→Int→Hp→An
abbrev PhL0 (rec:Rec) (k n0:Nat) (L0:TL0):Prop:=∀ x0 x1b x1o x3b x3o x4b x4o x5b x5o x8 H,L0 x0 x1b x1o x3b x3o x4b x4o x5b x5o x8 H=iter (o.at (lbody (sub body [1,1,1,0,1,0]))) (ex PP o rec k (lbody (sub body [1,1,1,0,1,0]))) (kAt PP o rec k body [1,1,1,0,1,0] [] (K0 PP Go.Proofs.Try.f83)) n0 (St.of 48 [(0,.int .i64 x0),(1,.ptr x1b x1o),(3,.ptr x3b x3o),(4,.ptr x4b x4o),(5,.ptr x5b x5o),(8,.int .i64 x8)] []) H
noncomputable def j2 (rec:Rec) (k:Nat) (x0:Int) (x1b:Nat) (x1o:Nat) (H:Hp):An:=(ldS 1 H x1b x1o).bind fun s23=>bif decide (0 ≤ (x0:Int)) && decide ((x0:Int) < s23.len) then (H.sto s23.blk (s23.off + (x0:Int).toNat * 1) [.int .i64 0]).bind fun H24=>some (.bool true,H24) else none
noncomputable def j3 (rec:Rec) (k:Nat) (L0:TL0) (x0:Int) (x1b:Nat) (x1o:Nat) (x3b:Nat) (x3o:Nat) (x4b:Nat) (x4o:Nat) (x5b:Nat) (x5o:Nat) (x8:Int) (H:Hp):An:=L0 x0 x1b x1o x3b x3o x4b x4o x5b x5o (IntKind.i64.wrap (x8 + 1)) H
noncomputable def j1 (rec:Rec) (k:Nat) (L0:TL0) (x0:Int) (x1b:Nat) (x1o:Nat) (x3b:Nat) (x3o:Nat) (x4b:Nat) (x4o:Nat) (x5b:Nat) (x5o:Nat) (x8:Int) (x44:Bool) (H:Hp):An:=bif x44 then some (.bool false,H) else j3 rec k L0 x0 x1b x1o x3b x3o x4b x4o x5b x5o x8 H
noncomputable def l0 (rec:Rec) (k:Nat):Nat→Int→Nat→Nat→Nat→Nat→Nat→Nat→Nat→Nat→Int→Hp→An
 | 0,_,_,_,_,_,_,_,_,_,_,_=>none
 | n + 1,x0,x1b,x1o,x3b,x3o,x4b,x4o,x5b,x5o,x8,H=>(ldI .i64 H x4b x4o).bind fun n11=>bif decide (x8 ≤ n11) then (ldS 1 H x1b x1o).bind fun s12=>bif decide (0 ≤ (x0:Int)) && decide ((x0:Int) < s12.len) then (H.sto s12.blk (s12.off + (x0:Int).toNat * 1) [.int .i64 x8]).bind fun H13=>(ldI .i64 H13 x5b x5o).bind fun n14=>(ldS 1 H13 x5b (x5o + 1)).bind fun s15=>(ldS 3 H13 x5b (x5o + 1 + 1)).bind fun s16=>(ldS 1 H13 x1b x1o).bind fun s17=>(rec impl_cellFits.id [.agg [.int .i64 n14,.sl 1 s15,.sl 3 s16],.sl 1 s17,.int .i64 x0] H13).bind fun r18=>r18.1.toB.bind fun b19=>bif b19 then (ldF r18.2 x3b x3o).bind fun q20=>bif okF Go.Proofs.Try.prog q20.1 && ([.int .i64 (IntKind.i64.wrap (x0 + 1))] ++ q20.2:List AV).all AV.glob then (rec q20.1 ([.int .i64 (IntKind.i64.wrap (x0 + 1))] ++ q20.2) r18.2).bind fun r21=>r21.1.toB.bind fun b22=>j1 rec k (l0 rec k n) x0 x1b x1o x3b x3o x4b x4o x5b x5o x8 (!b22) r21.2 else none else j1 rec k (l0 rec k n) x0 x1b x1o x3b x3o x4b x4o x5b x5o x8 false r18.2 else none else j2 rec k x0 x1b x1o H
noncomputable def f (rec:Rec) (k:Nat) (a0:Int) (c0b:Nat) (c0o:Nat) (c1b:Nat) (c1o:Nat) (c2b:Nat) (c2o:Nat) (c3b:Nat) (c3o:Nat) (c4b:Nat) (c4o:Nat) (H:Hp):An:=(ldS 1 H c0b c0o).bind fun s1=>bif a0 == (s1.len:Int) then (ldF H c1b c1o).bind fun q2=>(ldS 1 H c0b c0o).bind fun s3=>bif okF Go.Proofs.Try.prog q2.1 && ([.sl 1 s3] ++ q2.2:List AV).all AV.glob then (rec q2.1 ([.sl 1 s3] ++ q2.2) H).bind fun r4=>r4.1.toB.bind fun b5=>some (.bool b5,r4.2) else none else (ldS 1 H c0b c0o).bind fun s6=>bif decide (0 ≤ (a0:Int)) && decide ((a0:Int) < s6.len) then (ldI .i64 H s6.blk (s6.off + (a0:Int).toNat * 1)).bind fun n7=>bif decide (n7 > 0) then (ldF H c2b c2o).bind fun q8=>bif okF Go.Proofs.Try.prog q8.1 && ([.int .i64 (IntKind.i64.wrap (a0 + 1))] ++ q8.2:List AV).all AV.glob then (rec q8.1 ([.int .i64 (IntKind.i64.wrap (a0 + 1))] ++ q8.2) H).bind fun r9=>r9.1.toB.bind fun b10=>some (.bool b10,r9.2) else none else l0 rec k k a0 c0b c0o c2b c2o c3b c3o c4b c4o 1 H else none
theorem j2_eq (rec:Rec) (k:Nat):∀ x0 x1b x1o H,j2 rec k x0 x1b x1o H=ex PP o rec k (sub body [1,1,1,1]) (St.of 48 [(0,.int .i64 x0),(1,.ptr x1b x1o)] []) H (kAt PP o rec k body [1,1,1,1] [] (K0 PP Go.Proofs.Try.f83)):=by
 intros x0 x1b x1o H
 unfold j2
 kernel_rfl
theorem j3_eq (rec:Rec) (k:Nat) (n0:Nat) (L0:TL0) (hL0:PhL0 rec k n0 L0):∀ x0 x1b x1o x3b x3o x4b x4o x5b x5o x8 H,j3 rec k L0 x0 x1b x1o x3b x3o x4b x4o x5b x5o x8 H=ex PP o rec k (sub body [1,1,1,0,1,0,0,1,1]) (St.of 48 [(0,.int .i64 x0),(1,.ptr x1b x1o),(3,.ptr x3b x3o),(4,.ptr x4b x4o),(5,.ptr x5b x5o),(8,.int .i64 x8)] []) H (kAt PP o rec k body [1,1,1,0,1,0,0,1,1] [n0] (K0 PP Go.Proofs.Try.f83)):=by
 intros x0 x1b x1o x3b x3o x4b x4o x5b x5o x8 H
 unfold j3
 try simp only [hL0,-eq_self]
 kernel_rfl
theorem j1_eq (rec:Rec) (k:Nat) (n0:Nat) (L0:TL0) (hL0:PhL0 rec k n0 L0):∀ x0 x1b x1o x3b x3o x4b x4o x5b x5o x8 x44 H,j1 rec k L0 x0 x1b x1o x3b x3o x4b x4o x5b x5o x8 x44 H=ex PP o rec k (sub body [1,1,1,0,1,0,0,1,0,0,1,1]) (St.of 48 [(0,.int .i64 x0),(1,.ptr x1b x1o),(3,.ptr x3b x3o),(4,.ptr x4b x4o),(5,.ptr x5b x5o),(8,.int .i64 x8),(44,.bool x44)] []) H (kAt PP o rec k body [1,1,1,0,1,0,0,1,0,0,1,1] [n0] (K0 PP Go.Proofs.Try.f83)):=by
 intros x0 x1b x1o x3b x3o x4b x4o x5b x5o x8 x44 H
 unfold j1
 try simp only [hL0,j3_eq rec k n0 L0 hL0,-eq_self]
 kernel_rfl
theorem l0_eq (rec:Rec) (k:Nat):∀ n x0 x1b x1o x3b x3o x4b x4o x5b x5o x8 H,l0 rec k n x0 x1b x1o x3b x3o x4b x4o x5b x5o x8 H=iter (o.at (lbody (sub body [1,1,1,0,1,0]))) (ex PP o rec k (lbody (sub body [1,1,1,0,1,0]))) (kAt PP o rec k body [1,1,1,0,1,0] [] (K0 PP Go.Proofs.Try.f83)) n (St.of 48 [(0,.int .i64 x0),(1,.ptr x1b x1o),(3,.ptr x3b x3o),(4,.ptr x4b x4o),(5,.ptr x5b x5o),(8,.int .i64 x8)] []) H:=by
 intro n
 induction n with
 | zero=>intros; rfl
 | succ n ih=>
  intros x0 x1b x1o x3b x3o x4b x4o x5b x5o x8 H
  simp only [l0,j1_eq rec k n (l0 rec k n) (fun x0 x1b x1o x3b x3o x4b x4o x5b x5o x8 H=>ih x0 x1b x1o x3b x3o x4b x4o x5b x5o x8 H),j2_eq rec k,ih,-eq_self]
  kernel_rfl
theorem f_eq (rec:Rec) (k:Nat):∀ a0 c0b c0o c1b c1o c2b c2o c3b c3o c4b c4o H,f rec k a0 c0b c0o c1b c1o c2b c2o c3b c3o c4b c4o H=ex PP o rec k body (St.of 48 [(0,.int .i64 a0),(1,.ptr c0b c0o),(2,.ptr c1b c1o),(3,.ptr c2b c2o),(4,.ptr c3b c3o),(5,.ptr c4b c4o)] []) H (K0 PP Go.Proofs.Try.f83):=by
 intros a0 c0b c0o c1b c1o c2b c2o c3b c3o c4b c4o H
 unfold f
 try simp only [l0_eq rec k,-eq_self]
 kernel_rfl
theorem call (k:Nat):∀ a0 c0b c0o c1b c1o c2b c2o c3b c3o c4b c4o H,callF PP orc (k + 1) impl_solutions_1.id [.int .i64 a0,.ptr c0b c0o,.ptr c1b c1o,.ptr c2b c2o,.ptr c3b c3o,.ptr c4b c4o] H=f (callF PP orc k) k a0 c0b c0o c1b c1o c2b c2o c3b c3o c4b c4o H:=by
 intros a0 c0b c0o c1b c1o c2b c2o c3b c3o c4b c4o H
 rw [callF_at (fn:=Go.Proofs.Try.f83) (c:=body) Go.Proofs.Try.func83 (by kernel_rfl) (Nat.le_of_ble_eq_true (by kernel_rfl)),f_eq]
 kernel_rfl
end impl_solutions_1


namespace impl_SquareNumber
noncomputable def body:Code:=(Go.Proofs.Try.f14).body.getD .skip
abbrev o:=orc impl_SquareNumber.id
noncomputable def j1 (rec:Rec) (k:Nat) (x0:Int) (x3b:Nat) (x3o:Nat) (H:Hp):An:=((H ++ [some (Blk.mk false [.sl 1 Sl.none])]).sto H.length 0 [.sl 1 Sl.none]).bind fun H4=>if 0 ≤ (IntKind.i64.wrap (x0 * x0):Int)∧(IntKind.i64.wrap (x0 * x0):Int) ≤ IntKind.i64.wrap (x0 * x0)∧(IntKind.i64.wrap (x0 * x0):Int) ≤ 1073741824∧8 ≤ 8192∧0 < 1 then (rec impl_solutions.id [.agg [.int .i64 x0,.sl 1 (Sl.mk false H4.length 0 (IntKind.i64.wrap (x0 * x0):Int).toNat),.sl 3 Sl.none],.sl 1 (Sl.mk false H4.length 0 (IntKind.i64.wrap (x0 * x0):Int).toNat),.fn impl_SquareNumber_1.id [.ptr x3b x3o,.ptr H.length 0]] (H4 ++ [some (Blk.mk false (List.replicate (IntKind.i64.wrap (x0 * x0):Int).toNat [.int .i64 0]).flatten)])).bind fun r5=>(ldS 1 r5.2 H.length 0).bind fun s6=>some (.sl 1 s6,r5.2) else none
noncomputable def j0 (rec:Rec) (k:Nat) (x0:Int) (x3b:Nat) (x3o:Nat) (x13:Bool) (H:Hp):An:=bif x13 then some (.sl 1 Sl.none,H) else j1 rec k x0 x3b x3o H
noncomputable def f (rec:Rec) (k:Nat) (a0:Int) (a1:Int) (H:Hp):An:=(rec impl_sizeOk.id [.int .i64 a0] (H ++ [some (Blk.mk false [.int .i64 a1])])).bind fun r1=>r1.1.toB.bind fun b2=>bif !b2 then j0 rec k a0 H.length 0 true r1.2 else (ldI .i64 r1.2 H.length 0).bind fun n3=>j0 rec k a0 H.length 0 (decide (n3 < 0)) r1.2
theorem j1_eq (rec:Rec) (k:Nat):∀ x0 x3b x3o H,j1 rec k x0 x3b x3o H=ex PP o rec k (sub body [1,1]) (St.of 26 [(0,.int .i64 x0),(3,.ptr x3b x3o)] []) H (kAt PP o rec k body [1,1] [] (K0 PP Go.Proofs.Try.f14)):=by
 intros x0 x3b x3o H
 unfold j1
 kernel_rfl
theorem j0_eq (rec:Rec) (k:Nat):∀ x0 x3b x3o x13 H,j0 rec k x0 x3b x3o x13 H=ex PP o rec k (sub body [1,0,1]) (St.of 26 [(0,.int .i64 x0),(3,.ptr x3b x3o),(13,.bool x13)] []) H (kAt PP o rec k body [1,0,1] [] (K0 PP Go.Proofs.Try.f14)):=by
 intros x0 x3b x3o x13 H
 unfold j0
 try simp only [j1_eq rec k,-eq_self]
 kernel_rfl
theorem f_eq (rec:Rec) (k:Nat):∀ a0 a1 H,f rec k a0 a1 H=ex PP o rec k body (St.of 26 [(0,.int .i64 a0),(1,.int .i64 a1)] []) H (K0 PP Go.Proofs.Try.f14):=by
 intros a0 a1 H
 unfold f
 try simp only [j0_eq rec k,-eq_self]
 kernel_rfl
theorem call (k:Nat):∀ a0 a1 H,callF PP orc (k + 1) impl_SquareNumber.id [.int .i64 a0,.int .i64 a1] H=f (callF PP orc k) k a0 a1 H:=by
 intros a0 a1 H
 rw [callF_at (fn:=Go.Proofs.Try.f14) (c:=body) Go.Proofs.Try.func14 (by kernel_rfl) (Nat.le_of_ble_eq_true (by kernel_rfl)),f_eq]
 kernel_rfl
end impl_SquareNumber
namespace impl_SquareNumber_1
noncomputable def body:Code:=(Go.Proofs.Try.f54).body.getD .skip
noncomputable def f (rec:Rec) (k:Nat) (a0:Sl) (c0b:Nat) (c0o:Nat) (c1b:Nat) (c1o:Nat) (H:Hp):An:=(ldI .i64 H c0b c0o).bind fun n1=>bif n1 == 0 then (rec slices_Clone_int.id [.sl 1 a0] H).bind fun r2=>(r2.1.toS 1).bind fun s3=>(r2.2.sto c1b c1o [.sl 1 s3]).bind fun H4=>some (.bool false,H4) else (ldI .i64 H c0b c0o).bind fun n5=>(H.sto c0b c0o [.int .i64 (IntKind.i64.wrap (n5 - 1))]).bind fun H6=>some (.bool true,H6)
theorem f_eq (rec:Rec) (k:Nat):∀ a0 c0b c0o c1b c1o H,f rec k a0 c0b c0o c1b c1o H=ex PP (orc impl_SquareNumber_1.id) rec k body (St.of 11 [(0,.sl 1 a0),(1,.ptr c0b c0o),(2,.ptr c1b c1o)] []) H (K0 PP Go.Proofs.Try.f54):=by
 intros a0 c0b c0o c1b c1o H
 unfold f
 kernel_rfl
theorem call (k:Nat):∀ a0 c0b c0o c1b c1o H,callF PP orc (k + 1) impl_SquareNumber_1.id [.sl 1 a0,.ptr c0b c0o,.ptr c1b c1o] H=f (callF PP orc k) k a0 c0b c0o c1b c1o H:=by
 intros a0 c0b c0o c1b c1o H
 rw [callF_at (fn:=Go.Proofs.Try.f54) (c:=body) Go.Proofs.Try.func54 (by kernel_rfl) (Nat.le_of_ble_eq_true (by kernel_rfl)),f_eq]
 kernel_rfl
end impl_SquareNumber_1
namespace laws_sameInts
noncomputable def body:Code:=(Go.Proofs.Try.f15).body.getD .skip
abbrev o:=orc laws_sameInts.id
noncomputable def l0 (rec:Rec) (k:Nat):Nat→Sl→Sl→Int→Hp→An
 | 0,_,_,_,_=>none
 | n + 1,x0,x1,x5,H=>bif decide (x5 < (x0.len:Int)) then bif decide (0 ≤ (x5:Int)) && decide ((x5:Int) < x0.len) then (ldI .i64 H x0.blk (x0.off + (x5:Int).toNat * 1)).bind fun n1=>bif decide (0 ≤ (x5:Int)) && decide ((x5:Int) < x1.len) then (ldI .i64 H x1.blk (x1.off + (x5:Int).toNat * 1)).bind fun n2=>bif n1 != n2 then some (.bool false,H) else (l0 rec k n) x0 x1 (IntKind.i64.wrap (x5 + 1)) H else none else none else some (.bool true,H)
noncomputable def f (rec:Rec) (k:Nat) (a0:Sl) (a1:Sl) (H:Hp):An:=bif (a0.len:Int) != (a1.len:Int) then some (.bool false,H) else l0 rec k k a0 a1 0 H
theorem l0_eq (rec:Rec) (k:Nat):∀ n x0 x1 x5 H,l0 rec k n x0 x1 x5 H=iter (o.at (lbody (sub body [1,1,0,1,0]))) (ex PP o rec k (lbody (sub body [1,1,0,1,0]))) (kAt PP o rec k body [1,1,0,1,0] [] (K0 PP Go.Proofs.Try.f15)) n (St.of 26 [(0,.sl 1 x0),(1,.sl 1 x1),(5,.int .i64 x5)] []) H:=by
 intro n
 induction n with
 | zero=>intros; rfl
 | succ n ih=>
  intros x0 x1 x5 H
  simp only [l0,ih,-eq_self]
  kernel_rfl
theorem f_eq (rec:Rec) (k:Nat):∀ a0 a1 H,f rec k a0 a1 H=ex PP o rec k body (St.of 26 [(0,.sl 1 a0),(1,.sl 1 a1)] []) H (K0 PP Go.Proofs.Try.f15):=by
 intros a0 a1 H
 unfold f
 try simp only [l0_eq rec k,-eq_self]
 kernel_rfl
theorem call (k:Nat):∀ a0 a1 H,callF PP orc (k + 1) laws_sameInts.id [.sl 1 a0,.sl 1 a1] H=f (callF PP orc k) k a0 a1 H:=by
 intros a0 a1 H
 rw [callF_at (fn:=Go.Proofs.Try.f15) (c:=body) Go.Proofs.Try.func15 (by kernel_rfl) (Nat.le_of_ble_eq_true (by kernel_rfl)),f_eq]
 kernel_rfl
end laws_sameInts
namespace impl_PuzzleSolved
noncomputable def body:Code:=(Go.Proofs.Try.f20).body.getD .skip
noncomputable def f (rec:Rec) (k:Nat) (a0_0:Int) (a0_1:Sl) (a0_2:Sl) (a1:Sl) (H:Hp):An:=(rec impl_PuzzleFits.id [.agg [.int .i64 a0_0,.sl 1 a0_1,.sl 3 a0_2],.sl 1 a1] H).bind fun r1=>r1.1.toB.bind fun b2=>bif b2 then (rec impl_GridFilled.id [.sl 1 a1,.int .i64 a0_0] r1.2).bind fun r3=>(r3.1.toI .i64).bind fun n4=>some (.bool (n4 == (a1.len:Int)),r3.2) else some (.bool false,r1.2)
theorem f_eq (rec:Rec) (k:Nat):∀ a0_0 a0_1 a0_2 a1 H,f rec k a0_0 a0_1 a0_2 a1 H=ex PP (orc impl_PuzzleSolved.id) rec k body (St.of 17 [(0,.agg [.int .i64 a0_0,.sl 1 a0_1,.sl 3 a0_2]),(1,.sl 1 a1)] []) H (K0 PP Go.Proofs.Try.f20):=by
 intros a0_0 a0_1 a0_2 a1 H
 unfold f
 kernel_rfl
theorem call (k:Nat):∀ a0_0 a0_1 a0_2 a1 H,callF PP orc (k + 1) impl_PuzzleSolved.id [.agg [.int .i64 a0_0,.sl 1 a0_1,.sl 3 a0_2],.sl 1 a1] H=f (callF PP orc k) k a0_0 a0_1 a0_2 a1 H:=by
 intros a0_0 a0_1 a0_2 a1 H
 rw [callF_at (fn:=Go.Proofs.Try.f20) (c:=body) Go.Proofs.Try.func20 (by kernel_rfl) (Nat.le_of_ble_eq_true (by kernel_rfl)),f_eq]
 kernel_rfl
end impl_PuzzleSolved
namespace impl_RegionsValid
noncomputable def body:Code:=(Go.Proofs.Try.f59).body.getD .skip
abbrev o:=orc impl_RegionsValid.id
abbrev TL2:=Int→Sl→Int→Int→Hp→An
abbrev PhL2 (rec:Rec) (k n2:Nat) (L2:TL2):Prop:=∀ x1 x18 x19 x20 H,L2 x1 x18 x19 x20 H=iter (o.at (lbody (sub body [1,1,0,1,0]))) (ex PP o rec k (lbody (sub body [1,1,0,1,0]))) (kAt PP o rec k body [1,1,0,1,0] [] (K0 PP Go.Proofs.Try.f59)) n2 (St.of 32 [(1,.int .i64 x1),(18,.sl 1 x18),(19,.int .i64 x19),(20,.int .i64 x20)] []) H
noncomputable def j4 (rec:Rec) (k:Nat) (L2:TL2) (x1:Int) (x18:Sl) (x19:Int) (x20:Int) (H:Hp):An:=L2 x1 x18 x19 (IntKind.i64.wrap (x20 + 1)) H
noncomputable def j3 (rec:Rec) (k:Nat) (L2:TL2) (x1:Int) (x18:Sl) (x19:Int) (x20:Int) (x30:Bool) (H:Hp):An:=bif x30 then some (.bool false,H) else j4 rec k L2 x1 x18 x19 x20 H
noncomputable def l2 (rec:Rec) (k:Nat):Nat→Int→Sl→Int→Int→Hp→An
 | 0,_,_,_,_,_=>none
 | n + 1,x1,x18,x19,x20,H=>bif decide (x20 < x19) then bif decide (0 ≤ (x20:Int)) && decide ((x20:Int) < x18.len) then (ldI .i64 H x18.blk (x18.off + (x20:Int).toNat * 1)).bind fun n3=>bif decide (n3 < 0) then j3 rec k (l2 rec k n) x1 x18 x19 x20 true H else j3 rec k (l2 rec k n) x1 x18 x19 x20 (decide (n3 ≥ x1)) H else none else some (.bool true,H)
noncomputable def j1 (rec:Rec) (k:Nat) (x0:Sl) (x1:Int) (H:Hp):An:=l2 rec k k x1 x0 (x0.len:Int) 0 H
noncomputable def j0 (rec:Rec) (k:Nat) (x0:Sl) (x1:Int) (x17:Bool) (H:Hp):An:=bif x17 then some (.bool false,H) else j1 rec k x0 x1 H
noncomputable def f (rec:Rec) (k:Nat) (a0:Sl) (a1:Int) (H:Hp):An:=(rec impl_sizeOk.id [.int .i64 a1] H).bind fun r1=>r1.1.toB.bind fun b2=>bif !b2 then j0 rec k a0 a1 true r1.2 else j0 rec k a0 a1 ((a0.len:Int) != (IntKind.i64.wrap (a1 * a1))) r1.2
theorem j4_eq (rec:Rec) (k:Nat) (n2:Nat) (L2:TL2) (hL2:PhL2 rec k n2 L2):∀ x1 x18 x19 x20 H,j4 rec k L2 x1 x18 x19 x20 H=ex PP o rec k (sub body [1,1,0,1,0,0,1,1,1]) (St.of 32 [(1,.int .i64 x1),(18,.sl 1 x18),(19,.int .i64 x19),(20,.int .i64 x20)] []) H (kAt PP o rec k body [1,1,0,1,0,0,1,1,1] [n2] (K0 PP Go.Proofs.Try.f59)):=by
 intros x1 x18 x19 x20 H
 unfold j4
 try simp only [hL2,-eq_self]
 kernel_rfl
theorem j3_eq (rec:Rec) (k:Nat) (n2:Nat) (L2:TL2) (hL2:PhL2 rec k n2 L2):∀ x1 x18 x19 x20 x30 H,j3 rec k L2 x1 x18 x19 x20 x30 H=ex PP o rec k (sub body [1,1,0,1,0,0,1,1,0,0,1,1]) (St.of 32 [(1,.int .i64 x1),(18,.sl 1 x18),(19,.int .i64 x19),(20,.int .i64 x20),(30,.bool x30)] []) H (kAt PP o rec k body [1,1,0,1,0,0,1,1,0,0,1,1] [n2] (K0 PP Go.Proofs.Try.f59)):=by
 intros x1 x18 x19 x20 x30 H
 unfold j3
 try simp only [hL2,j4_eq rec k n2 L2 hL2,-eq_self]
 kernel_rfl
theorem l2_eq (rec:Rec) (k:Nat):∀ n x1 x18 x19 x20 H,l2 rec k n x1 x18 x19 x20 H=iter (o.at (lbody (sub body [1,1,0,1,0]))) (ex PP o rec k (lbody (sub body [1,1,0,1,0]))) (kAt PP o rec k body [1,1,0,1,0] [] (K0 PP Go.Proofs.Try.f59)) n (St.of 32 [(1,.int .i64 x1),(18,.sl 1 x18),(19,.int .i64 x19),(20,.int .i64 x20)] []) H:=by
 intro n
 induction n with
 | zero=>intros; rfl
 | succ n ih=>
  intros x1 x18 x19 x20 H
  simp only [l2,j3_eq rec k n (l2 rec k n) (fun x1 x18 x19 x20 H=>ih x1 x18 x19 x20 H),ih,-eq_self]
  kernel_rfl
theorem j1_eq (rec:Rec) (k:Nat):∀ x0 x1 H,j1 rec k x0 x1 H=ex PP o rec k (sub body [1,1]) (St.of 32 [(0,.sl 1 x0),(1,.int .i64 x1)] []) H (kAt PP o rec k body [1,1] [] (K0 PP Go.Proofs.Try.f59)):=by
 intros x0 x1 H
 unfold j1
 try simp only [l2_eq rec k,-eq_self]
 kernel_rfl
theorem j0_eq (rec:Rec) (k:Nat):∀ x0 x1 x17 H,j0 rec k x0 x1 x17 H=ex PP o rec k (sub body [1,0,1]) (St.of 32 [(0,.sl 1 x0),(1,.int .i64 x1),(17,.bool x17)] []) H (kAt PP o rec k body [1,0,1] [] (K0 PP Go.Proofs.Try.f59)):=by
 intros x0 x1 x17 H
 unfold j0
 try simp only [j1_eq rec k,-eq_self]
 kernel_rfl
theorem f_eq (rec:Rec) (k:Nat):∀ a0 a1 H,f rec k a0 a1 H=ex PP o rec k body (St.of 32 [(0,.sl 1 a0),(1,.int .i64 a1)] []) H (K0 PP Go.Proofs.Try.f59):=by
 intros a0 a1 H
 unfold f
 try simp only [j0_eq rec k,-eq_self]
 kernel_rfl
theorem call (k:Nat):∀ a0 a1 H,callF PP orc (k + 1) impl_RegionsValid.id [.sl 1 a0,.int .i64 a1] H=f (callF PP orc k) k a0 a1 H:=by
 intros a0 a1 H
 rw [callF_at (fn:=Go.Proofs.Try.f59) (c:=body) Go.Proofs.Try.func59 (by kernel_rfl) (Nat.le_of_ble_eq_true (by kernel_rfl)),f_eq]
 kernel_rfl
end impl_RegionsValid
namespace impl_RegionCells
noncomputable def body:Code:=(Go.Proofs.Try.f21).body.getD .skip
abbrev o:=orc impl_RegionCells.id
noncomputable def j3 (rec:Rec) (k:Nat) (L2:Int→Sl→Sl→Int→Int→Hp→An) (x2:Int) (x7:Sl) (x24:Sl) (x25:Int) (x26:Int) (H:Hp):An:=L2 x2 x7 x24 x25 (IntKind.i64.wrap (x26 + 1)) H
noncomputable def j4 (rec:Rec) (k:Nat) (x7:Sl) (H:Hp):An:=some (.sl 1 x7,H)
noncomputable def l2 (rec:Rec) (k:Nat):Nat→Int→Sl→Sl→Int→Int→Hp→An
 | 0,_,_,_,_,_,_=>none
 | n + 1,x2,x7,x24,x25,x26,H=>bif decide (x26 < x25) then bif decide (0 ≤ (x26:Int)) && decide ((x26:Int) < x24.len) then (ldI .i64 H x24.blk (x24.off + (x26:Int).toNat * 1)).bind fun n3=>bif n3 == x2 then (H.app 1 x7 1 [.int .i64 x26]).bind fun w4=>j3 rec k (l2 rec k n) x2 w4.1 x24 x25 x26 w4.2 else j3 rec k (l2 rec k n) x2 x7 x24 x25 x26 H else none else j4 rec k x7 H
noncomputable def j1 (rec:Rec) (k:Nat) (x0:Sl) (x2:Int) (H:Hp):An:=l2 rec k k x2 (Sl.mk false H.length 0 0) x0 (x0.len:Int) 0 (H ++ [some (Blk.mk false [])])
noncomputable def j0 (rec:Rec) (k:Nat) (x0:Sl) (x2:Int) (x22:Bool) (H:Hp):An:=bif x22 then some (.sl 1 Sl.none,H) else j1 rec k x0 x2 H
noncomputable def f (rec:Rec) (k:Nat) (a0:Sl) (a1:Int) (a2:Int) (H:Hp):An:=(rec impl_RegionsValid.id [.sl 1 a0,.int .i64 a1] H).bind fun r1=>r1.1.toB.bind fun b2=>bif !b2 then j0 rec k a0 a2 true r1.2 else bif decide (a2 < 0) then j0 rec k a0 a2 true r1.2 else j0 rec k a0 a2 (decide (a2 ≥ a1)) r1.2
theorem j3_eq (rec:Rec) (k:Nat) (n2:Nat) (L2:Int→Sl→Sl→Int→Int→Hp→An) (hL2:∀ x2 x7 x24 x25 x26 H,L2 x2 x7 x24 x25 x26 H=iter (o.at (lbody (sub body [1,1,1,0,1,0]))) (ex PP o rec k (lbody (sub body [1,1,1,0,1,0]))) (kAt PP o rec k body [1,1,1,0,1,0] [] (K0 PP Go.Proofs.Try.f21)) n2 (St.of 40 [(2,.int .i64 x2),(7,.sl 1 x7),(24,.sl 1 x24),(25,.int .i64 x25),(26,.int .i64 x26)] []) H):∀ x2 x7 x24 x25 x26 H,j3 rec k L2 x2 x7 x24 x25 x26 H=ex PP o rec k (sub body [1,1,1,0,1,0,0,1,1,1]) (St.of 40 [(2,.int .i64 x2),(7,.sl 1 x7),(24,.sl 1 x24),(25,.int .i64 x25),(26,.int .i64 x26)] []) H (kAt PP o rec k body [1,1,1,0,1,0,0,1,1,1] [n2] (K0 PP Go.Proofs.Try.f21)):=by
 intros x2 x7 x24 x25 x26 H
 unfold j3
 try simp only [hL2,-eq_self]
 kernel_rfl
theorem j4_eq (rec:Rec) (k:Nat):∀ x7 H,j4 rec k x7 H=ex PP o rec k (sub body [1,1,1,1]) (St.of 40 [(7,.sl 1 x7)] []) H (kAt PP o rec k body [1,1,1,1] [] (K0 PP Go.Proofs.Try.f21)):=by
 intros x7 H
 unfold j4
 kernel_rfl
theorem l2_eq (rec:Rec) (k:Nat):∀ n x2 x7 x24 x25 x26 H,l2 rec k n x2 x7 x24 x25 x26 H=iter (o.at (lbody (sub body [1,1,1,0,1,0]))) (ex PP o rec k (lbody (sub body [1,1,1,0,1,0]))) (kAt PP o rec k body [1,1,1,0,1,0] [] (K0 PP Go.Proofs.Try.f21)) n (St.of 40 [(2,.int .i64 x2),(7,.sl 1 x7),(24,.sl 1 x24),(25,.int .i64 x25),(26,.int .i64 x26)] []) H:=by
 intro n
 induction n with
 | zero=>intros; rfl
 | succ n ih=>
  intros x2 x7 x24 x25 x26 H
  simp only [l2,j3_eq rec k n (l2 rec k n) (fun x2 x7 x24 x25 x26 H=>ih x2 x7 x24 x25 x26 H),j4_eq rec k,ih,-eq_self]
  kernel_rfl
theorem j1_eq (rec:Rec) (k:Nat):∀ x0 x2 H,j1 rec k x0 x2 H=ex PP o rec k (sub body [1,1]) (St.of 40 [(0,.sl 1 x0),(2,.int .i64 x2)] []) H (kAt PP o rec k body [1,1] [] (K0 PP Go.Proofs.Try.f21)):=by
 intros x0 x2 H
 unfold j1
 try simp only [l2_eq rec k,-eq_self]
 kernel_rfl
theorem j0_eq (rec:Rec) (k:Nat):∀ x0 x2 x22 H,j0 rec k x0 x2 x22 H=ex PP o rec k (sub body [1,0,1]) (St.of 40 [(0,.sl 1 x0),(2,.int .i64 x2),(22,.bool x22)] []) H (kAt PP o rec k body [1,0,1] [] (K0 PP Go.Proofs.Try.f21)):=by
 intros x0 x2 x22 H
 unfold j0
 try simp only [j1_eq rec k,-eq_self]
 kernel_rfl
theorem f_eq (rec:Rec) (k:Nat):∀ a0 a1 a2 H,f rec k a0 a1 a2 H=ex PP o rec k body (St.of 40 [(0,.sl 1 a0),(1,.int .i64 a1),(2,.int .i64 a2)] []) H (K0 PP Go.Proofs.Try.f21):=by
 intros a0 a1 a2 H
 unfold f
 try simp only [j0_eq rec k,-eq_self]
 kernel_rfl
theorem call (k:Nat):∀ a0 a1 a2 H,callF PP orc (k + 1) impl_RegionCells.id [.sl 1 a0,.int .i64 a1,.int .i64 a2] H=f (callF PP orc k) k a0 a1 a2 H:=by
 intros a0 a1 a2 H
 rw [callF_at (fn:=Go.Proofs.Try.f21) (c:=body) Go.Proofs.Try.func21 (by kernel_rfl) (Nat.le_of_ble_eq_true (by kernel_rfl)),f_eq]
 kernel_rfl
end impl_RegionCells
namespace impl_BoxRegions
noncomputable def body:Code:=(Go.Proofs.Try.f19).body.getD .skip
noncomputable def f (rec:Rec) (k:Nat) (H:Hp):An:=some (.sl 1 (Sl.mk false H.length 0 16),H ++ [some (Blk.mk false [.int .i64 0,.int .i64 0,.int .i64 1,.int .i64 1,.int .i64 0,.int .i64 0,.int .i64 1,.int .i64 1,.int .i64 2,.int .i64 2,.int .i64 3,.int .i64 3,.int .i64 2,.int .i64 2,.int .i64 3,.int .i64 3])])
theorem f_eq (rec:Rec) (k:Nat):∀ H,f rec k H=ex PP (orc impl_BoxRegions.id) rec k body (St.of 2 [] []) H (K0 PP Go.Proofs.Try.f19):=by
 intros H
 unfold f
 kernel_rfl
theorem call (k:Nat):∀ H,callF PP orc (k + 1) impl_BoxRegions.id [] H=f (callF PP orc k) k H:=by
 intros H
 rw [callF_at (fn:=Go.Proofs.Try.f19) (c:=body) Go.Proofs.Try.func19 (by kernel_rfl) (Nat.le_of_ble_eq_true (by kernel_rfl)),f_eq]
 kernel_rfl
end impl_BoxRegions
namespace impl_RegionRules
noncomputable def body:Code:=(Go.Proofs.Try.f18).body.getD .skip
abbrev o:=orc impl_RegionRules.id
noncomputable def j1 (rec:Rec) (k:Nat) (L0:Sl→Int→Sl→Int→Int→Hp→An) (x0:Sl) (x1:Int) (x6:Sl) (x14:Int) (x15:Int) (H:Hp):An:=L0 x0 x1 x6 x14 (IntKind.i64.wrap (x15 + 1)) H
noncomputable def j2 (rec:Rec) (k:Nat) (x6:Sl) (H:Hp):An:=some (.tup [.sl 3 x6,.bool true],H)
noncomputable def l0 (rec:Rec) (k:Nat):Nat→Sl→Int→Sl→Int→Int→Hp→An
 | 0,_,_,_,_,_,_=>none
 | n + 1,x0,x1,x6,x14,x15,H=>bif decide (x15 < x14) then (rec impl_RegionCells.id [.sl 1 x0,.int .i64 x1,.int .i64 x15] H).bind fun r3=>(r3.1.toS 1).bind fun s4=>bif decide ((s4.len:Int) > 4) then some (.tup [.sl 3 Sl.none,.bool false],r3.2) else bif decide ((s4.len:Int) ≥ 2) then (r3.2.app 3 x6 1 [.int .i64 1,.sl 1 s4,.int .i64 0]).bind fun w5=>j1 rec k (l0 rec k n) x0 x1 w5.1 x14 x15 w5.2 else j1 rec k (l0 rec k n) x0 x1 x6 x14 x15 r3.2 else j2 rec k x6 H
noncomputable def f (rec:Rec) (k:Nat) (a0:Sl) (a1:Int) (H:Hp):An:=(rec impl_RegionsValid.id [.sl 1 a0,.int .i64 a1] H).bind fun r1=>r1.1.toB.bind fun b2=>bif !b2 then some (.tup [.sl 3 Sl.none,.bool false],r1.2) else l0 rec k k a0 a1 (Sl.mk false r1.2.length 0 0) a1 0 (r1.2 ++ [some (Blk.mk false [])])
theorem j1_eq (rec:Rec) (k:Nat) (n0:Nat) (L0:Sl→Int→Sl→Int→Int→Hp→An) (hL0:∀ x0 x1 x6 x14 x15 H,L0 x0 x1 x6 x14 x15 H=iter (o.at (lbody (sub body [1,1,1,0,1,0]))) (ex PP o rec k (lbody (sub body [1,1,1,0,1,0]))) (kAt PP o rec k body [1,1,1,0,1,0] [] (K0 PP Go.Proofs.Try.f18)) n0 (St.of 35 [(0,.sl 1 x0),(1,.int .i64 x1),(6,.sl 3 x6),(14,.int .i64 x14),(15,.int .i64 x15)] []) H):∀ x0 x1 x6 x14 x15 H,j1 rec k L0 x0 x1 x6 x14 x15 H=ex PP o rec k (sub body [1,1,1,0,1,0,0,1,1,1]) (St.of 35 [(0,.sl 1 x0),(1,.int .i64 x1),(6,.sl 3 x6),(14,.int .i64 x14),(15,.int .i64 x15)] []) H (kAt PP o rec k body [1,1,1,0,1,0,0,1,1,1] [n0] (K0 PP Go.Proofs.Try.f18)):=by
 intros x0 x1 x6 x14 x15 H
 unfold j1
 try simp only [hL0,-eq_self]
 kernel_rfl
theorem j2_eq (rec:Rec) (k:Nat):∀ x6 H,j2 rec k x6 H=ex PP o rec k (sub body [1,1,1,1]) (St.of 35 [(6,.sl 3 x6)] []) H (kAt PP o rec k body [1,1,1,1] [] (K0 PP Go.Proofs.Try.f18)):=by
 intros x6 H
 unfold j2
 kernel_rfl
theorem l0_eq (rec:Rec) (k:Nat):∀ n x0 x1 x6 x14 x15 H,l0 rec k n x0 x1 x6 x14 x15 H=iter (o.at (lbody (sub body [1,1,1,0,1,0]))) (ex PP o rec k (lbody (sub body [1,1,1,0,1,0]))) (kAt PP o rec k body [1,1,1,0,1,0] [] (K0 PP Go.Proofs.Try.f18)) n (St.of 35 [(0,.sl 1 x0),(1,.int .i64 x1),(6,.sl 3 x6),(14,.int .i64 x14),(15,.int .i64 x15)] []) H:=by
 intro n
 induction n with
 | zero=>intros; rfl
 | succ n ih=>
  intros x0 x1 x6 x14 x15 H
  simp only [l0,j1_eq rec k n (l0 rec k n) (fun x0 x1 x6 x14 x15 H=>ih x0 x1 x6 x14 x15 H),j2_eq rec k,ih,-eq_self]
  kernel_rfl
theorem f_eq (rec:Rec) (k:Nat):∀ a0 a1 H,f rec k a0 a1 H=ex PP o rec k body (St.of 35 [(0,.sl 1 a0),(1,.int .i64 a1)] []) H (K0 PP Go.Proofs.Try.f18):=by
 intros a0 a1 H
 unfold f
 try simp only [l0_eq rec k,-eq_self]
 kernel_rfl
theorem call (k:Nat):∀ a0 a1 H,callF PP orc (k + 1) impl_RegionRules.id [.sl 1 a0,.int .i64 a1] H=f (callF PP orc k) k a0 a1 H:=by
 intros a0 a1 H
 rw [callF_at (fn:=Go.Proofs.Try.f18) (c:=body) Go.Proofs.Try.func18 (by kernel_rfl) (Nat.le_of_ble_eq_true (by kernel_rfl)),f_eq]
 kernel_rfl
end impl_RegionRules
namespace spec_DrawSquareNumber
noncomputable def body:Code:=(Go.Proofs.Try.f13).body.getD .skip
noncomputable def f (rec:Rec) (k:Nat) (a0:Sl) (H:Hp):An:=(rec spec_l20Open.id [.sl 1 a0] H).bind fun r1=>r1.1.toP.bind fun p2=>(rec spec_l20Size.id [.ptr p2.1 p2.2,.int .i64 9] r1.2).bind fun r3=>(r3.1.toI .i64).bind fun n4=>(rec spec_l20Rd_pick.id [.ptr p2.1 p2.2,.int .i64 14] r3.2).bind fun r5=>(r5.1.toI .i64).bind fun n6=>(rec spec_l20Rd_pick.id [.ptr p2.1 p2.2,.int .i64 256] r5.2).bind fun r7=>(r7.1.toI .i64).bind fun n8=>(rec spec_l20Rd_pick.id [.ptr p2.1 p2.2,.int .i64 9] r7.2).bind fun r9=>(r9.1.toI .i64).bind fun n10=>bif decide (0 ≤ (n10:Int)) && decide ((n10:Int) < ((9:Nat):Int)) then (([.int .i64 0,.int .i64 0,.int .i64 0,.int .i64 1,.int .i64 1,.int .i64 2,.int .i64 3,.int .i64 4,.int .i64 5]:List AV)[(n10:Int).toNat * 1]?).bind fun v11=>bif v11.cell then (v11.toI .i64).bind fun n12=>bif decide (0 ≤ (n12:Int)) && decide ((n12:Int) < ((6:Nat):Int)) then (([.int .i64 n6,.int .i64 (IntKind.i64.wrap (n8 * 2)),.int .i64 575,.int .i64 576,.int .i64 (-1),.int .i64 9223372036854775807]:List AV)[(n12:Int).toNat * 1]?).bind fun v13=>bif v13.cell then (v13.toI .i64).bind fun n14=>some (.tup [.int .i64 n4,.int .i64 n14],r9.2) else none else none else none else none
theorem f_eq (rec:Rec) (k:Nat):∀ a0 H,f rec k a0 H=ex PP (orc spec_DrawSquareNumber.id) rec k body (St.of 24 [(0,.sl 1 a0)] []) H (K0 PP Go.Proofs.Try.f13):=by
 intros a0 H
 unfold f
 kernel_rfl
theorem call (k:Nat):∀ a0 H,callF PP orc (k + 1) spec_DrawSquareNumber.id [.sl 1 a0] H=f (callF PP orc k) k a0 H:=by
 intros a0 H
 rw [callF_at (fn:=Go.Proofs.Try.f13) (c:=body) Go.Proofs.Try.func13 (by kernel_rfl) (Nat.le_of_ble_eq_true (by kernel_rfl)),f_eq]
 kernel_rfl
end spec_DrawSquareNumber
namespace laws_FnBoxSquare
noncomputable def body:Code:=(Go.Proofs.Try.f3).body.getD .skip
abbrev o:=orc laws_FnBoxSquare.id
abbrev TL2:=Sl→Bool→Bool→Int→Hp→An
abbrev PhL2 (rec:Rec) (k n2:Nat) (L2:TL2):Prop:=∀ x5 x8 x9 x10 H,L2 x5 x8 x9 x10 H=iter (o.at (lbody (sub body [1,1,1,1,1,1,1,1,1,0,1,0]))) (ex PP o rec k (lbody (sub body [1,1,1,1,1,1,1,1,1,0,1,0]))) (kAt PP o rec k body [1,1,1,1,1,1,1,1,1,0,1,0] [] (K0 PP Go.Proofs.Try.f3)) n2 (St.of 80 [(5,.sl 1 x5),(8,.bool x8),(9,.bool x9),(10,.int .i64 x10)] []) H
noncomputable def j4 (rec:Rec) (k:Nat) (x8:Bool) (x9:Bool) (H:Hp):An:=some (.bool (x8 == x9),H)
noncomputable def j6 (rec:Rec) (k:Nat) (L2:TL2) (x5:Sl) (x8:Bool) (x9:Bool) (x10:Int) (H:Hp):An:=L2 x5 x8 x9 (IntKind.i64.wrap (x10 + 1)) H
noncomputable def j5 (rec:Rec) (k:Nat) (L2:TL2) (x5:Sl) (x8:Bool) (x9:Bool) (x10:Int) (x12:Int) (H:Hp):An:=bif x9 then j6 rec k L2 x5 x8 (x12 == 30) x10 H else j6 rec k L2 x5 x8 false x10 H
noncomputable def l3 (rec:Rec) (k:Nat) (L2:TL2):Nat→Sl→Bool→Bool→Int→Sl→Int→Int→Hp→An
 | 0,_,_,_,_,_,_,_,_=>none
 | n + 1,x5,x8,x9,x10,x11,x12,x13,H=>bif decide (x13 < (x11.len:Int)) then bif decide (0 ≤ (x13:Int)) && decide ((x13:Int) < x11.len) then (ldI .i64 H x11.blk (x11.off + (x13:Int).toNat * 1)).bind fun n23=>bif decide (0 ≤ (n23:Int)) && decide ((n23:Int) < x5.len) then (ldI .i64 H x5.blk (x5.off + (n23:Int).toNat * 1)).bind fun n24=>if (n24:Int) < 0 then none else (l3 rec k L2 n) x5 x8 x9 x10 x11 (IntKind.i64.wrap (((BitVec.ofInt IntKind.i64.bits x12 ||| BitVec.ofInt IntKind.i64.bits (IntKind.i64.wrap (1 * 2 ^ (min (n24:Int).toNat IntKind.i64.bits)))).toNat:Int))) (IntKind.i64.wrap (x13 + 1)) H else none else none else j5 rec k L2 x5 x8 x9 x10 x12 H
noncomputable def l2 (rec:Rec) (k:Nat):Nat→Sl→Bool→Bool→Int→Hp→An
 | 0,_,_,_,_,_=>none
 | n + 1,x5,x8,x9,x10,H=>bif decide (x10 < 4) then (rec impl_BoxRegions.id [] H).bind fun r19=>(r19.1.toS 1).bind fun s20=>(rec impl_RegionCells.id [.sl 1 s20,.int .i64 4,.int .i64 x10] r19.2).bind fun r21=>(r21.1.toS 1).bind fun s22=>l3 rec k (l2 rec k n) k x5 x8 x9 x10 s22 0 0 r21.2 else j4 rec k x8 x9 H
noncomputable def j1 (rec:Rec) (k:Nat) (x5:Sl) (H:Hp):An:=(rec impl_BoxRegions.id [] H).bind fun r12=>(r12.1.toS 1).bind fun s13=>(rec impl_RegionRules.id [.sl 1 s13,.int .i64 4] r12.2).bind fun r14=>bif r14.1.isTup 2 then ((r14.1.nth 0).toS 3).bind fun s15=>(r14.1.nth 1).toB.bind fun b16=>if 0 ≤ (16:Int)∧(16:Int) ≤ 16∧(16:Int) ≤ 1073741824∧8 ≤ 8192∧0 < 1 then (rec impl_PuzzleSolved.id [.agg [.int .i64 4,.sl 1 (Sl.mk false r14.2.length 0 (16:Int).toNat),.sl 3 s15],.sl 1 x5] (r14.2 ++ [some (Blk.mk false (List.replicate (16:Int).toNat [.int .i64 0]).flatten)])).bind fun r17=>r17.1.toB.bind fun b18=>l2 rec k k x5 b18 true 0 r17.2 else none else none
noncomputable def j0 (rec:Rec) (k:Nat) (x5:Sl) (x37:Bool) (H:Hp):An:=bif x37 then (rec laws_alive.id [] H).bind fun r10=>r10.1.toB.bind fun b11=>some (.bool b11,r10.2) else j1 rec k x5 H
noncomputable def f (rec:Rec) (k:Nat) (a0:Sl) (H:Hp):An:=bif decide ((a0.len:Int) > 1048576) then some (.bool true,H) else (rec spec_DrawSquareNumber.id [.sl 1 a0] H).bind fun r1=>bif r1.1.isTup 2 then ((r1.1.nth 0).toI .i64).bind fun n2=>((r1.1.nth 1).toI .i64).bind fun n3=>(rec impl_SquareNumber.id [.int .i64 n2,.int .i64 n3] r1.2).bind fun r4=>(r4.1.toS 1).bind fun s5=>(rec spec_SquareNumber.id [.int .i64 n2,.int .i64 n3] r4.2).bind fun r6=>(r6.1.toS 1).bind fun s7=>(rec laws_sameInts.id [.sl 1 s5,.sl 1 s7] r6.2).bind fun r8=>r8.1.toB.bind fun b9=>bif !b9 then some (.bool false,r8.2) else bif n2 != 4 then j0 rec k s5 true r8.2 else j0 rec k s5 ((s5.len:Int) == 0) r8.2 else none
theorem j4_eq (rec:Rec) (k:Nat):∀ x8 x9 H,j4 rec k x8 x9 H=ex PP o rec k (sub body [1,1,1,1,1,1,1,1,1,1]) (St.of 80 [(8,.bool x8),(9,.bool x9)] []) H (kAt PP o rec k body [1,1,1,1,1,1,1,1,1,1] [] (K0 PP Go.Proofs.Try.f3)):=by
 intros x8 x9 H
 simp only [j4,-eq_self]
 kernel_rfl
theorem j6_eq (rec:Rec) (k:Nat) (n2:Nat) (L2:TL2) (hL2:PhL2 rec k n2 L2):∀ x5 x8 x9 x10 H,j6 rec k L2 x5 x8 x9 x10 H=ex PP o rec k (sub body [1,1,1,1,1,1,1,1,1,0,1,0,0,1,1]) (St.of 80 [(5,.sl 1 x5),(8,.bool x8),(9,.bool x9),(10,.int .i64 x10)] []) H (kAt PP o rec k body [1,1,1,1,1,1,1,1,1,0,1,0,0,1,1] [n2] (K0 PP Go.Proofs.Try.f3)):=by
 intros x5 x8 x9 x10 H
 simp only [j6,hL2,-eq_self]
 kernel_rfl
theorem j5_eq (rec:Rec) (k:Nat) (n2:Nat) (L2:TL2) (hL2:PhL2 rec k n2 L2):∀ x5 x8 x9 x10 x12 H,j5 rec k L2 x5 x8 x9 x10 x12 H=ex PP o rec k (sub body [1,1,1,1,1,1,1,1,1,0,1,0,0,1,0,0,1,1,1]) (St.of 80 [(5,.sl 1 x5),(8,.bool x8),(9,.bool x9),(10,.int .i64 x10),(12,.int .i64 x12)] []) H (kAt PP o rec k body [1,1,1,1,1,1,1,1,1,0,1,0,0,1,0,0,1,1,1] [n2] (K0 PP Go.Proofs.Try.f3)):=by
 intros x5 x8 x9 x10 x12 H
 simp only [j5,j6,hL2,-eq_self]
 kernel_rfl
theorem l3_eq (rec:Rec) (k:Nat) (n2:Nat) (L2:TL2) (hL2:PhL2 rec k n2 L2):∀ n x5 x8 x9 x10 x11 x12 x13 H,l3 rec k L2 n x5 x8 x9 x10 x11 x12 x13 H=iter (o.at (lbody (sub body [1,1,1,1,1,1,1,1,1,0,1,0,0,1,0,0,1,1,0,1,0]))) (ex PP o rec k (lbody (sub body [1,1,1,1,1,1,1,1,1,0,1,0,0,1,0,0,1,1,0,1,0]))) (kAt PP o rec k body [1,1,1,1,1,1,1,1,1,0,1,0,0,1,0,0,1,1,0,1,0] [n2] (K0 PP Go.Proofs.Try.f3)) n (St.of 80 [(5,.sl 1 x5),(8,.bool x8),(9,.bool x9),(10,.int .i64 x10),(11,.sl 1 x11),(12,.int .i64 x12),(13,.int .i64 x13)] []) H:=by
 intro n
 induction n with
 | zero=>intros; rfl
 | succ n ih=>
  intros x5 x8 x9 x10 x11 x12 x13 H
  simp only [l3,j5,j6,hL2,ih,-eq_self]
  kernel_rfl
theorem l2_eq (rec:Rec) (k:Nat):∀ n x5 x8 x9 x10 H,l2 rec k n x5 x8 x9 x10 H=iter (o.at (lbody (sub body [1,1,1,1,1,1,1,1,1,0,1,0]))) (ex PP o rec k (lbody (sub body [1,1,1,1,1,1,1,1,1,0,1,0]))) (kAt PP o rec k body [1,1,1,1,1,1,1,1,1,0,1,0] [] (K0 PP Go.Proofs.Try.f3)) n (St.of 80 [(5,.sl 1 x5),(8,.bool x8),(9,.bool x9),(10,.int .i64 x10)] []) H:=by
 intro n
 induction n with
 | zero=>intros; rfl
 | succ n ih=>
  intros x5 x8 x9 x10 H
  simp only [l2,j4,l3_eq rec k n (l2 rec k n) (fun x5 x8 x9 x10 H=>ih x5 x8 x9 x10 H),ih,-eq_self]
  kernel_rfl
theorem j1_eq (rec:Rec) (k:Nat):∀ x5 H,j1 rec k x5 H=ex PP o rec k (sub body [1,1,1,1,1,1]) (St.of 80 [(5,.sl 1 x5)] []) H (kAt PP o rec k body [1,1,1,1,1,1] [] (K0 PP Go.Proofs.Try.f3)):=by
 intros x5 H
 simp only [j1,l2_eq rec k,-eq_self]
 kernel_rfl
theorem j0_eq (rec:Rec) (k:Nat):∀ x5 x37 H,j0 rec k x5 x37 H=ex PP o rec k (sub body [1,1,1,1,1,0,1]) (St.of 80 [(5,.sl 1 x5),(37,.bool x37)] []) H (kAt PP o rec k body [1,1,1,1,1,0,1] [] (K0 PP Go.Proofs.Try.f3)):=by
 intros x5 x37 H
 simp only [j0,j1,l2_eq rec k,-eq_self]
 kernel_rfl
theorem f_eq (rec:Rec) (k:Nat):∀ a0 H,f rec k a0 H=ex PP o rec k body (St.of 80 [(0,.sl 1 a0)] []) H (K0 PP Go.Proofs.Try.f3):=by
 intros a0 H
 simp only [f,j0,j1,l2_eq rec k,-eq_self]
 kernel_rfl
theorem call (k:Nat):∀ a0 H,callF PP orc (k + 1) laws_FnBoxSquare.id [.sl 1 a0] H=f (callF PP orc k) k a0 H:=by
 intros a0 H
 rw [callF_at (fn:=Go.Proofs.Try.f3) (c:=body) Go.Proofs.Try.func3 (by kernel_rfl) (Nat.le_of_ble_eq_true (by kernel_rfl)),f_eq]
 kernel_rfl
end laws_FnBoxSquare
end Go.Proofs.Ytjikkamhljbipaa.Rp
