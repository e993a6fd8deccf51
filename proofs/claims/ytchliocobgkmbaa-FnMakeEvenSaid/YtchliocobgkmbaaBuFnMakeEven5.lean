/- Texts for the row of the law FnMakeEven, part 5: the plain machine, the program's functions on it, what they come to. No conditions. -/
import Derived.Test.YtchliocobgkmbaaAb
import Derived.Test.YtchliocobgkmbaaOr
set_option linter.unusedVariables false
set_option linter.unusedSimpArgs false
set_option maxRecDepth 100000
namespace Go.Proofs.Ytchliocobgkmbaa.Rp
open Go Go.Proofs.Ytchliocobgkmbaa.Ab
namespace impl_solutions
noncomputable def body:Code:=(Go.Proofs.Try.f96).body.getD .skip
noncomputable def f (rec:Rec) (k:Nat) (a0_0:Int) (a0_1:Sl) (a0_2:Sl) (a1:Sl) (a2f:Nat) (a2c:List AV) (H:Hp):An:=(rec slices_Clone_int.id [.sl 1 a1] (H ++ [some (Blk.mk false [.int .i64 a0_0,.sl 1 a0_1,.sl 3 a0_2])] ++ [some (Blk.mk false [.fn a2f a2c])])).bind fun r1=>(r1.1.toS 1).bind fun s2=>((r1.2 ++ [some (Blk.mk false [.sl 1 Sl.none])]).sto r1.2.length 0 [.sl 1 s2]).bind fun H3=>(ldI .i64 H3 H.length 0).bind fun n4=>(ldS 1 H3 H.length (0 + 1)).bind fun s5=>(ldS 3 H3 H.length (0 + 1 + 1)).bind fun s6=>(ldS 1 H3 r1.2.length 0).bind fun s7=>(rec impl_PuzzleFits.id [.agg [.int .i64 n4,.sl 1 s5,.sl 3 s6],.sl 1 s7] H3).bind fun r8=>r8.1.toB.bind fun b9=>bif !b9 then some (.tup [],r8.2) else (ldI .i64 r8.2 H.length (0 + 0)).bind fun n10=>((r8.2 ++ [some (Blk.mk false [.int .i64 0])]).sto r8.2.length 0 [.int .i64 n10]).bind fun H11=>((H11 ++ [some (Blk.mk false [.nilf])]).sto H11.length 0 [.fn impl_solutions_1.id [.ptr r1.2.length 0,.ptr ((H ++ [some (Blk.mk false [.int .i64 a0_0,.sl 1 a0_1,.sl 3 a0_2])]).length) 0,.ptr H11.length 0,.ptr r8.2.length 0,.ptr H.length 0]]).bind fun H12=>(ldF H12 H11.length 0).bind fun q13=>bif okF Go.Proofs.Try.prog q13.1 && ([.int .i64 0] ++ q13.2:List AV).all AV.glob then (rec q13.1 ([.int .i64 0] ++ q13.2) H12).bind fun r14=>r14.1.toB.bind fun b15=>some (.tup [],r14.2) else none
theorem f_eq (rec:Rec) (k:Nat):∀ a0_0 a0_1 a0_2 a1 a2f a2c H,f rec k a0_0 a0_1 a0_2 a1 a2f a2c H=ex PP (orc impl_solutions.id) rec k body (St.of 20 [(0,.agg [.int .i64 a0_0,.sl 1 a0_1,.sl 3 a0_2]),(1,.sl 1 a1),(2,.fn a2f a2c)] []) H (K0 PP Go.Proofs.Try.f96):=by
 intros a0_0 a0_1 a0_2 a1 a2f a2c H
 unfold f
 kernel_rfl
theorem call (k:Nat):∀ a0_0 a0_1 a0_2 a1 a2f a2c H,callF PP orc (k + 1) impl_solutions.id [.agg [.int .i64 a0_0,.sl 1 a0_1,.sl 3 a0_2],.sl 1 a1,.fn a2f a2c] H=f (callF PP orc k) k a0_0 a0_1 a0_2 a1 a2f a2c H:=by
 intros a0_0 a0_1 a0_2 a1 a2f a2c H
 rw [callF_at (fn:=Go.Proofs.Try.f96) (c:=body) Go.Proofs.Try.func96 (by kernel_rfl) (Nat.le_of_ble_eq_true (by kernel_rfl)),f_eq]
 kernel_rfl
end impl_solutions
namespace impl_solutions_1
noncomputable def body:Code:=(Go.Proofs.Try.f116).body.getD .skip
abbrev o:=orc impl_solutions_1.id
abbrev TL0:=Int→Nat→Nat→Nat→Nat→Nat→Nat→Nat→Nat→Int→Hp→An
abbrev PhL0 (rec:Rec) (k n0:Nat) (L0:TL0):Prop:=∀ x0 x1b x1o x3b x3o x4b x4o x5b x5o x8 H,L0 x0 x1b x1o x3b x3o x4b x4o x5b x5o x8 H=iter (o.at (lbody (sub body [1,1,1,0,1,0]))) (ex PP o rec k (lbody (sub body [1,1,1,0,1,0]))) (kAt PP o rec k body [1,1,1,0,1,0] [] (K0 PP Go.Proofs.Try.f116)) n0 (St.of 48 [(0,.int .i64 x0),(1,.ptr x1b x1o),(3,.ptr x3b x3o),(4,.ptr x4b x4o),(5,.ptr x5b x5o),(8,.int .i64 x8)] []) H
noncomputable def j2 (rec:Rec) (k:Nat) (x0:Int) (x1b:Nat) (x1o:Nat) (H:Hp):An:=(ldS 1 H x1b x1o).bind fun s23=>bif decide (0 ≤ (x0:Int)) && decide ((x0:Int) < s23.len) then (H.sto s23.blk (s23.off + (x0:Int).toNat * 1) [.int .i64 0]).bind fun H24=>some (.bool true,H24) else none
noncomputable def j3 (rec:Rec) (k:Nat) (L0:TL0) (x0:Int) (x1b:Nat) (x1o:Nat) (x3b:Nat) (x3o:Nat) (x4b:Nat) (x4o:Nat) (x5b:Nat) (x5o:Nat) (x8:Int) (H:Hp):An:=L0 x0 x1b x1o x3b x3o x4b x4o x5b x5o (IntKind.i64.wrap (x8 + 1)) H
noncomputable def j1 (rec:Rec) (k:Nat) (L0:TL0) (x0:Int) (x1b:Nat) (x1o:Nat) (x3b:Nat) (x3o:Nat) (x4b:Nat) (x4o:Nat) (x5b:Nat) (x5o:Nat) (x8:Int) (x44:Bool) (H:Hp):An:=bif x44 then some (.bool false,H) else j3 rec k L0 x0 x1b x1o x3b x3o x4b x4o x5b x5o x8 H
noncomputable def l0 (rec:Rec) (k:Nat):Nat→Int→Nat→Nat→Nat→Nat→Nat→Nat→Nat→Nat→Int→Hp→An
 | 0,_,_,_,_,_,_,_,_,_,_,_=>none
 | n + 1,x0,x1b,x1o,x3b,x3o,x4b,x4o,x5b,x5o,x8,H=>(ldI .i64 H x4b x4o).bind fun n11=>bif decide (x8 ≤ n11) then (ldS 1 H x1b x1o).bind fun s12=>bif decide (0 ≤ (x0:Int)) && decide ((x0:Int) < s12.len) then (H.sto s12.blk (s12.off + (x0:Int).toNat * 1) [.int .i64 x8]).bind fun H13=>(ldI .i64 H13 x5b x5o).bind fun n14=>(ldS 1 H13 x5b (x5o + 1)).bind fun s15=>(ldS 3 H13 x5b (x5o + 1 + 1)).bind fun s16=>(ldS 1 H13 x1b x1o).bind fun s17=>(rec impl_cellFits.id [.agg [.int .i64 n14,.sl 1 s15,.sl 3 s16],.sl 1 s17,.int .i64 x0] H13).bind fun r18=>r18.1.toB.bind fun b19=>bif b19 then (ldF r18.2 x3b x3o).bind fun q20=>bif okF Go.Proofs.Try.prog q20.1 && ([.int .i64 (IntKind.i64.wrap (x0 + 1))] ++ q20.2:List AV).all AV.glob then (rec q20.1 ([.int .i64 (IntKind.i64.wrap (x0 + 1))] ++ q20.2) r18.2).bind fun r21=>r21.1.toB.bind fun b22=>j1 rec k (l0 rec k n) x0 x1b x1o x3b x3o x4b x4o x5b x5o x8 (!b22) r21.2 else none else j1 rec k (l0 rec k n) x0 x1b x1o x3b x3o x4b x4o x5b x5o x8 false r18.2 else none else j2 rec k x0 x1b x1o H
noncomputable def f (rec:Rec) (k:Nat) (a0:Int) (c0b:Nat) (c0o:Nat) (c1b:Nat) (c1o:Nat) (c2b:Nat) (c2o:Nat) (c3b:Nat) (c3o:Nat) (c4b:Nat) (c4o:Nat) (H:Hp):An:=(ldS 1 H c0b c0o).bind fun s1=>bif a0 == (s1.len:Int) then (ldF H c1b c1o).bind fun q2=>(ldS 1 H c0b c0o).bind fun s3=>bif okF Go.Proofs.Try.prog q2.1 && ([.sl 1 s3] ++ q2.2:List AV).all AV.glob then (rec q2.1 ([.sl 1 s3] ++ q2.2) H).bind fun r4=>r4.1.toB.bind fun b5=>some (.bool b5,r4.2) else none else (ldS 1 H c0b c0o).bind fun s6=>bif decide (0 ≤ (a0:Int)) && decide ((a0:Int) < s6.len) then (ldI .i64 H s6.blk (s6.off + (a0:Int).toNat * 1)).bind fun n7=>bif decide (n7 > 0) then (ldF H c2b c2o).bind fun q8=>bif okF Go.Proofs.Try.prog q8.1 && ([.int .i64 (IntKind.i64.wrap (a0 + 1))] ++ q8.2:List AV).all AV.glob then (rec q8.1 ([.int .i64 (IntKind.i64.wrap (a0 + 1))] ++ q8.2) H).bind fun r9=>r9.1.toB.bind fun b10=>some (.bool b10,r9.2) else none else l0 rec k k a0 c0b c0o c2b c2o c3b c3o c4b c4o 1 H else none
theorem j2_eq (rec:Rec) (k:Nat):∀ x0 x1b x1o H,j2 rec k x0 x1b x1o H=ex PP o rec k (sub body [1,1,1,1]) (St.of 48 [(0,.int .i64 x0),(1,.ptr x1b x1o)] []) H (kAt PP o rec k body [1,1,1,1] [] (K0 PP Go.Proofs.Try.f116)):=by
 intros x0 x1b x1o H
 unfold j2
 kernel_rfl
theorem j3_eq (rec:Rec) (k:Nat) (n0:Nat) (L0:TL0) (hL0:PhL0 rec k n0 L0):∀ x0 x1b x1o x3b x3o x4b x4o x5b x5o x8 H,j3 rec k L0 x0 x1b x1o x3b x3o x4b x4o x5b x5o x8 H=ex PP o rec k (sub body [1,1,1,0,1,0,0,1,1]) (St.of 48 [(0,.int .i64 x0),(1,.ptr x1b x1o),(3,.ptr x3b x3o),(4,.ptr x4b x4o),(5,.ptr x5b x5o),(8,.int .i64 x8)] []) H (kAt PP o rec k body [1,1,1,0,1,0,0,1,1] [n0] (K0 PP Go.Proofs.Try.f116)):=by
 intros x0 x1b x1o x3b x3o x4b x4o x5b x5o x8 H
 unfold j3
 try simp only [hL0,-eq_self]
 kernel_rfl
theorem j1_eq (rec:Rec) (k:Nat) (n0:Nat) (L0:TL0) (hL0:PhL0 rec k n0 L0):∀ x0 x1b x1o x3b x3o x4b x4o x5b x5o x8 x44 H,j1 rec k L0 x0 x1b x1o x3b x3o x4b x4o x5b x5o x8 x44 H=ex PP o rec k (sub body [1,1,1,0,1,0,0,1,0,0,1,1]) (St.of 48 [(0,.int .i64 x0),(1,.ptr x1b x1o),(3,.ptr x3b x3o),(4,.ptr x4b x4o),(5,.ptr x5b x5o),(8,.int .i64 x8),(44,.bool x44)] []) H (kAt PP o rec k body [1,1,1,0,1,0,0,1,0,0,1,1] [n0] (K0 PP Go.Proofs.Try.f116)):=by
 intros x0 x1b x1o x3b x3o x4b x4o x5b x5o x8 x44 H
 unfold j1
 try simp only [hL0,j3_eq rec k n0 L0 hL0,-eq_self]
 kernel_rfl
theorem l0_eq (rec:Rec) (k:Nat):∀ n x0 x1b x1o x3b x3o x4b x4o x5b x5o x8 H,l0 rec k n x0 x1b x1o x3b x3o x4b x4o x5b x5o x8 H=iter (o.at (lbody (sub body [1,1,1,0,1,0]))) (ex PP o rec k (lbody (sub body [1,1,1,0,1,0]))) (kAt PP o rec k body [1,1,1,0,1,0] [] (K0 PP Go.Proofs.Try.f116)) n (St.of 48 [(0,.int .i64 x0),(1,.ptr x1b x1o),(3,.ptr x3b x3o),(4,.ptr x4b x4o),(5,.ptr x5b x5o),(8,.int .i64 x8)] []) H:=by
 intro n
 induction n with
 | zero=>intros; rfl
 | succ n ih=>
  intros x0 x1b x1o x3b x3o x4b x4o x5b x5o x8 H
  simp only [l0,j1_eq rec k n (l0 rec k n) (fun x0 x1b x1o x3b x3o x4b x4o x5b x5o x8 H=>ih x0 x1b x1o x3b x3o x4b x4o x5b x5o x8 H),j2_eq rec k,ih,-eq_self]
  kernel_rfl
theorem f_eq (rec:Rec) (k:Nat):∀ a0 c0b c0o c1b c1o c2b c2o c3b c3o c4b c4o H,f rec k a0 c0b c0o c1b c1o c2b c2o c3b c3o c4b c4o H=ex PP o rec k body (St.of 48 [(0,.int .i64 a0),(1,.ptr c0b c0o),(2,.ptr c1b c1o),(3,.ptr c2b c2o),(4,.ptr c3b c3o),(5,.ptr c4b c4o)] []) H (K0 PP Go.Proofs.Try.f116):=by
 intros a0 c0b c0o c1b c1o c2b c2o c3b c3o c4b c4o H
 unfold f
 try simp only [l0_eq rec k,-eq_self]
 kernel_rfl
theorem call (k:Nat):∀ a0 c0b c0o c1b c1o c2b c2o c3b c3o c4b c4o H,callF PP orc (k + 1) impl_solutions_1.id [.int .i64 a0,.ptr c0b c0o,.ptr c1b c1o,.ptr c2b c2o,.ptr c3b c3o,.ptr c4b c4o] H=f (callF PP orc k) k a0 c0b c0o c1b c1o c2b c2o c3b c3o c4b c4o H:=by
 intros a0 c0b c0o c1b c1o c2b c2o c3b c3o c4b c4o H
 rw [callF_at (fn:=Go.Proofs.Try.f116) (c:=body) Go.Proofs.Try.func116 (by kernel_rfl) (Nat.le_of_ble_eq_true (by kernel_rfl)),f_eq]
 kernel_rfl
end impl_solutions_1
namespace spec_SolveFirst
noncomputable def body:Code:=(Go.Proofs.Try.f51).body.getD .skip
noncomputable def f (rec:Rec) (k:Nat) (a0_0:Int) (a0_1:Sl) (a0_2:Sl) (H:Hp):An:=(rec spec_l5All.id [.agg [.int .i64 a0_0,.sl 1 a0_1,.sl 3 a0_2],.int .i64 1] H).bind fun r1=>(r1.1.toS 1).bind fun s2=>bif (s2.len:Int) == 0 then some (.tup [.sl 1 (Sl.mk false r1.2.length 0 0),.bool false],r1.2 ++ [some (Blk.mk false [])]) else bif decide (0 ≤ (0:Int)) && decide ((0:Int) < s2.len) then (ldS 1 r1.2 s2.blk (s2.off + (0:Int).toNat * 1)).bind fun s3=>some (.tup [.sl 1 s3,.bool true],r1.2) else none
theorem f_eq (rec:Rec) (k:Nat):∀ a0_0 a0_1 a0_2 H,f rec k a0_0 a0_1 a0_2 H=ex PP (orc spec_SolveFirst.id) rec k body (St.of 14 [(0,.agg [.int .i64 a0_0,.sl 1 a0_1,.sl 3 a0_2])] []) H (K0 PP Go.Proofs.Try.f51):=by
 intros a0_0 a0_1 a0_2 H
 unfold f
 kernel_rfl
theorem call (k:Nat):∀ a0_0 a0_1 a0_2 H,callF PP orc (k + 1) spec_SolveFirst.id [.agg [.int .i64 a0_0,.sl 1 a0_1,.sl 3 a0_2]] H=f (callF PP orc k) k a0_0 a0_1 a0_2 H:=by
 intros a0_0 a0_1 a0_2 H
 rw [callF_at (fn:=Go.Proofs.Try.f51) (c:=body) Go.Proofs.Try.func51 (by kernel_rfl) (Nat.le_of_ble_eq_true (by kernel_rfl)),f_eq]
 kernel_rfl
end spec_SolveFirst
namespace impl_firstSolutions
noncomputable def body:Code:=(Go.Proofs.Try.f61).body.getD .skip
noncomputable def f (rec:Rec) (k:Nat) (a0_0:Int) (a0_1:Sl) (a0_2:Sl) (a1:Sl) (a2:Int) (H:Hp):An:=((H ++ [some (Blk.mk false [.int .i64 a2])] ++ [some (Blk.mk false [])] ++ [some (Blk.mk false [.sl 1 Sl.none])]).sto ((H ++ [some (Blk.mk false [.int .i64 a2])] ++ [some (Blk.mk false [])]).length) 0 [.sl 1 (Sl.mk false ((H ++ [some (Blk.mk false [.int .i64 a2])]).length) 0 0)]).bind fun H1=>(rec impl_solutions.id [.agg [.int .i64 a0_0,.sl 1 a0_1,.sl 3 a0_2],.sl 1 a1,.fn impl_firstSolutions_1.id [.ptr ((H ++ [some (Blk.mk false [.int .i64 a2])] ++ [some (Blk.mk false [])]).length) 0,.ptr H.length 0]] H1).bind fun r2=>(ldS 1 r2.2 ((H ++ [some (Blk.mk false [.int .i64 a2])] ++ [some (Blk.mk false [])]).length) 0).bind fun s3=>some (.sl 1 s3,r2.2)
theorem f_eq (rec:Rec) (k:Nat):∀ a0_0 a0_1 a0_2 a1 a2 H,f rec k a0_0 a0_1 a0_2 a1 a2 H=ex PP (orc impl_firstSolutions.id) rec k body (St.of 14 [(0,.agg [.int .i64 a0_0,.sl 1 a0_1,.sl 3 a0_2]),(1,.sl 1 a1),(2,.int .i64 a2)] []) H (K0 PP Go.Proofs.Try.f61):=by
 intros a0_0 a0_1 a0_2 a1 a2 H
 unfold f
 kernel_rfl
theorem call (k:Nat):∀ a0_0 a0_1 a0_2 a1 a2 H,callF PP orc (k + 1) impl_firstSolutions.id [.agg [.int .i64 a0_0,.sl 1 a0_1,.sl 3 a0_2],.sl 1 a1,.int .i64 a2] H=f (callF PP orc k) k a0_0 a0_1 a0_2 a1 a2 H:=by
 intros a0_0 a0_1 a0_2 a1 a2 H
 rw [callF_at (fn:=Go.Proofs.Try.f61) (c:=body) Go.Proofs.Try.func61 (by kernel_rfl) (Nat.le_of_ble_eq_true (by kernel_rfl)),f_eq]
 kernel_rfl
end impl_firstSolutions
namespace impl_firstSolutions_1
noncomputable def body:Code:=(Go.Proofs.Try.f97).body.getD .skip
noncomputable def f (rec:Rec) (k:Nat) (a0:Sl) (c0b:Nat) (c0o:Nat) (c1b:Nat) (c1o:Nat) (H:Hp):An:=(ldS 1 H c0b c0o).bind fun s1=>(rec slices_Clone_int.id [.sl 1 a0] H).bind fun r2=>(r2.1.toS 1).bind fun s3=>bif stableB H r2.2 c0b c0o 1 && true then (r2.2.app 1 s1 1 [.sl 1 s3]).bind fun w4=>(w4.2.sto c0b c0o [.sl 1 w4.1]).bind fun H5=>(ldS 1 H5 c0b c0o).bind fun s6=>(ldI .i64 H5 c1b c1o).bind fun n7=>some (.bool (decide ((s6.len:Int) < n7)),H5) else none
theorem f_eq (rec:Rec) (k:Nat):∀ a0 c0b c0o c1b c1o H,f rec k a0 c0b c0o c1b c1o H=ex PP (orc impl_firstSolutions_1.id) rec k body (St.of 14 [(0,.sl 1 a0),(1,.ptr c0b c0o),(2,.ptr c1b c1o)] []) H (K0 PP Go.Proofs.Try.f97):=by
 intros a0 c0b c0o c1b c1o H
 unfold f
 kernel_rfl
theorem call (k:Nat):∀ a0 c0b c0o c1b c1o H,callF PP orc (k + 1) impl_firstSolutions_1.id [.sl 1 a0,.ptr c0b c0o,.ptr c1b c1o] H=f (callF PP orc k) k a0 c0b c0o c1b c1o H:=by
 intros a0 c0b c0o c1b c1o H
 rw [callF_at (fn:=Go.Proofs.Try.f97) (c:=body) Go.Proofs.Try.func97 (by kernel_rfl) (Nat.le_of_ble_eq_true (by kernel_rfl)),f_eq]
 kernel_rfl
end impl_firstSolutions_1
namespace impl_CountSolutions
noncomputable def body:Code:=(Go.Proofs.Try.f20).body.getD .skip
abbrev o:=orc impl_CountSolutions.id
noncomputable def j1 (rec:Rec) (k:Nat) (x1:Int) (y2_0:Int) (y2_1:Sl) (y2_2:Sl) (H:Hp):An:=(rec impl_firstSolutions.id [.agg [.int .i64 y2_0,.sl 1 y2_1,.sl 3 y2_2],.sl 1 y2_1,.int .i64 x1] H).bind fun r3=>(r3.1.toS 1).bind fun s4=>some (.int .i64 (s4.len:Int),r3.2)
noncomputable def j0 (rec:Rec) (k:Nat) (x1:Int) (x15:Bool) (y2_0:Int) (y2_1:Sl) (y2_2:Sl) (H:Hp):An:=bif x15 then some (.int .i64 (-1),H) else j1 rec k x1 y2_0 y2_1 y2_2 H
noncomputable def f (rec:Rec) (k:Nat) (a0_0:Int) (a0_1:Sl) (a0_2:Sl) (a1:Int) (H:Hp):An:=(rec impl_PuzzleValid.id [.agg [.int .i64 a0_0,.sl 1 a0_1,.sl 3 a0_2]] H).bind fun r1=>r1.1.toB.bind fun b2=>bif !b2 then j0 rec k a1 true a0_0 a0_1 a0_2 r1.2 else bif decide (a1 < 1) then j0 rec k a1 true a0_0 a0_1 a0_2 r1.2 else j0 rec k a1 (decide (a1 > 600)) a0_0 a0_1 a0_2 r1.2
theorem j1_eq (rec:Rec) (k:Nat):∀ x1 y2_0 y2_1 y2_2 H,j1 rec k x1 y2_0 y2_1 y2_2 H=ex PP o rec k (sub body [1,1]) (St.of 22 [(1,.int .i64 x1),(2,.lp 2 0)] [(2,[.int .i64 y2_0,.sl 1 y2_1,.sl 3 y2_2])]) H (kAt PP o rec k body [1,1] [] (K0 PP Go.Proofs.Try.f20)):=by
 intros x1 y2_0 y2_1 y2_2 H
 unfold j1
 kernel_rfl
theorem j0_eq (rec:Rec) (k:Nat):∀ x1 x15 y2_0 y2_1 y2_2 H,j0 rec k x1 x15 y2_0 y2_1 y2_2 H=ex PP o rec k (sub body [1,0,1]) (St.of 22 [(1,.int .i64 x1),(2,.lp 2 0),(15,.bool x15)] [(2,[.int .i64 y2_0,.sl 1 y2_1,.sl 3 y2_2])]) H (kAt PP o rec k body [1,0,1] [] (K0 PP Go.Proofs.Try.f20)):=by
 intros x1 x15 y2_0 y2_1 y2_2 H
 unfold j0
 try simp only [j1_eq rec k,-eq_self]
 kernel_rfl
theorem f_eq (rec:Rec) (k:Nat):∀ a0_0 a0_1 a0_2 a1 H,f rec k a0_0 a0_1 a0_2 a1 H=ex PP o rec k body (St.of 22 [(0,.agg [.int .i64 a0_0,.sl 1 a0_1,.sl 3 a0_2]),(1,.int .i64 a1)] []) H (K0 PP Go.Proofs.Try.f20):=by
 intros a0_0 a0_1 a0_2 a1 H
 unfold f
 try simp only [j0_eq rec k,-eq_self]
 kernel_rfl
theorem call (k:Nat):∀ a0_0 a0_1 a0_2 a1 H,callF PP orc (k + 1) impl_CountSolutions.id [.agg [.int .i64 a0_0,.sl 1 a0_1,.sl 3 a0_2],.int .i64 a1] H=f (callF PP orc k) k a0_0 a0_1 a0_2 a1 H:=by
 intros a0_0 a0_1 a0_2 a1 H
 rw [callF_at (fn:=Go.Proofs.Try.f20) (c:=body) Go.Proofs.Try.func20 (by kernel_rfl) (Nat.le_of_ble_eq_true (by kernel_rfl)),f_eq]
 kernel_rfl
end impl_CountSolutions
namespace impl_SolveFirst
noncomputable def body:Code:=(Go.Proofs.Try.f19).body.getD .skip
noncomputable def f (rec:Rec) (k:Nat) (a0_0:Int) (a0_1:Sl) (a0_2:Sl) (H:Hp):An:=(rec impl_PuzzleValid.id [.agg [.int .i64 a0_0,.sl 1 a0_1,.sl 3 a0_2]] H).bind fun r1=>r1.1.toB.bind fun b2=>bif !b2 then some (.tup [.sl 1 Sl.none,.bool false],r1.2) else (rec impl_firstSolutions.id [.agg [.int .i64 a0_0,.sl 1 a0_1,.sl 3 a0_2],.sl 1 a0_1,.int .i64 1] r1.2).bind fun r3=>(r3.1.toS 1).bind fun s4=>bif (s4.len:Int) == 0 then some (.tup [.sl 1 Sl.none,.bool false],r3.2) else bif decide (0 ≤ (0:Int)) && decide ((0:Int) < s4.len) then (ldS 1 r3.2 s4.blk (s4.off + (0:Int).toNat * 1)).bind fun s5=>some (.tup [.sl 1 s5,.bool true],r3.2) else none
theorem f_eq (rec:Rec) (k:Nat):∀ a0_0 a0_1 a0_2 H,f rec k a0_0 a0_1 a0_2 H=ex PP (orc impl_SolveFirst.id) rec k body (St.of 18 [(0,.agg [.int .i64 a0_0,.sl 1 a0_1,.sl 3 a0_2])] []) H (K0 PP Go.Proofs.Try.f19):=by
 intros a0_0 a0_1 a0_2 H
 unfold f
 kernel_rfl
theorem call (k:Nat):∀ a0_0 a0_1 a0_2 H,callF PP orc (k + 1) impl_SolveFirst.id [.agg [.int .i64 a0_0,.sl 1 a0_1,.sl 3 a0_2]] H=f (callF PP orc k) k a0_0 a0_1 a0_2 H:=by
 intros a0_0 a0_1 a0_2 H
 rw [callF_at (fn:=Go.Proofs.Try.f19) (c:=body) Go.Proofs.Try.func19 (by kernel_rfl) (Nat.le_of_ble_eq_true (by kernel_rfl)),f_eq]
 kernel_rfl
end impl_SolveFirst
namespace impl_onlyOne
noncomputable def body:Code:=(Go.Proofs.Try.f53).body.getD .skip
noncomputable def f (rec:Rec) (k:Nat) (a0_0:Int) (a0_1:Sl) (a0_2:Sl) (H:Hp):An:=(rec impl_CountSolutions.id [.agg [.int .i64 a0_0,.sl 1 a0_1,.sl 3 a0_2],.int .i64 2] H).bind fun r1=>(r1.1.toI .i64).bind fun n2=>some (.bool (n2 == 1),r1.2)
theorem f_eq (rec:Rec) (k:Nat):∀ a0_0 a0_1 a0_2 H,f rec k a0_0 a0_1 a0_2 H=ex PP (orc impl_onlyOne.id) rec k body (St.of 6 [(0,.agg [.int .i64 a0_0,.sl 1 a0_1,.sl 3 a0_2])] []) H (K0 PP Go.Proofs.Try.f53):=by
 intros a0_0 a0_1 a0_2 H
 unfold f
 kernel_rfl
theorem call (k:Nat):∀ a0_0 a0_1 a0_2 H,callF PP orc (k + 1) impl_onlyOne.id [.agg [.int .i64 a0_0,.sl 1 a0_1,.sl 3 a0_2]] H=f (callF PP orc k) k a0_0 a0_1 a0_2 H:=by
 intros a0_0 a0_1 a0_2 H
 rw [callF_at (fn:=Go.Proofs.Try.f53) (c:=body) Go.Proofs.Try.func53 (by kernel_rfl) (Nat.le_of_ble_eq_true (by kernel_rfl)),f_eq]
 kernel_rfl
end impl_onlyOne
namespace spec_l1OwnRule
noncomputable def body:Code:=(Go.Proofs.Try.f113).body.getD .skip
noncomputable def f (rec:Rec) (k:Nat) (a0_0:Int) (a0_1:Sl) (a0_2:Int) (H:Hp):An:=(H.read 1 a0_1).bind fun c2=>(H.appl 1 [] 0 a0_1.len c2).bind fun w1=>bif true && c2.all AV.cell then some (.agg [.int .i64 a0_0,.sl 1 w1.1,.int .i64 a0_2],w1.2) else none
theorem f_eq (rec:Rec) (k:Nat):∀ a0_0 a0_1 a0_2 H,f rec k a0_0 a0_1 a0_2 H=ex PP (orc spec_l1OwnRule.id) rec k body (St.of 11 [(0,.agg [.int .i64 a0_0,.sl 1 a0_1,.int .i64 a0_2])] []) H (K0 PP Go.Proofs.Try.f113):=by
 intros a0_0 a0_1 a0_2 H
 unfold f
 kernel_rfl
theorem call (k:Nat):∀ a0_0 a0_1 a0_2 H,callF PP orc (k + 1) spec_l1OwnRule.id [.agg [.int .i64 a0_0,.sl 1 a0_1,.int .i64 a0_2]] H=f (callF PP orc k) k a0_0 a0_1 a0_2 H:=by
 intros a0_0 a0_1 a0_2 H
 rw [callF_at (fn:=Go.Proofs.Try.f113) (c:=body) Go.Proofs.Try.func113 (by kernel_rfl) (Nat.le_of_ble_eq_true (by kernel_rfl)),f_eq]
 kernel_rfl
end spec_l1OwnRule
namespace spec_l1OwnRuleList
noncomputable def body:Code:=(Go.Proofs.Try.f94).body.getD .skip
abbrev o:=orc spec_l1OwnRuleList.id
noncomputable def j1 (rec:Rec) (k:Nat) (x3:Sl) (H:Hp):An:=some (.sl 3 x3,H)
noncomputable def l0 (rec:Rec) (k:Nat):Nat→Sl→Sl→Int→Hp→An
 | 0,_,_,_,_=>none
 | n + 1,x0,x3,x4,H=>bif decide (x4 < (x0.len:Int)) then bif decide (0 ≤ (x4:Int)) && decide ((x4:Int) < x0.len) then (ldI .i64 H x0.blk (x0.off + (x4:Int).toNat * 3)).bind fun n1=>(ldS 1 H x0.blk (x0.off + (x4:Int).toNat * 3 + 1)).bind fun s2=>(ldI .i64 H x0.blk (x0.off + (x4:Int).toNat * 3 + 1 + 1)).bind fun n3=>(rec spec_l1OwnRule.id [.agg [.int .i64 n1,.sl 1 s2,.int .i64 n3]] H).bind fun r4=>bif r4.1.isAgg 3 then ((r4.1.cel 0).toI .i64).bind fun n5=>((r4.1.cel 1).toS 1).bind fun s6=>((r4.1.cel 2).toI .i64).bind fun n7=>(r4.2.app 3 x3 1 [.int .i64 n5,.sl 1 s6,.int .i64 n7]).bind fun w8=>(l0 rec k n) x0 w8.1 (IntKind.i64.wrap (x4 + 1)) w8.2 else none else none else j1 rec k x3 H
noncomputable def f (rec:Rec) (k:Nat) (a0:Sl) (H:Hp):An:=l0 rec k k a0 (Sl.mk false H.length 0 0) 0 (H ++ [some (Blk.mk false [])])
theorem j1_eq (rec:Rec) (k:Nat):∀ x3 H,j1 rec k x3 H=ex PP o rec k (sub body [1,1,1]) (St.of 21 [(3,.sl 3 x3)] []) H (kAt PP o rec k body [1,1,1] [] (K0 PP Go.Proofs.Try.f94)):=by
 intros x3 H
 unfold j1
 kernel_rfl
theorem l0_eq (rec:Rec) (k:Nat):∀ n x0 x3 x4 H,l0 rec k n x0 x3 x4 H=iter (o.at (lbody (sub body [1,1,0,1,0]))) (ex PP o rec k (lbody (sub body [1,1,0,1,0]))) (kAt PP o rec k body [1,1,0,1,0] [] (K0 PP Go.Proofs.Try.f94)) n (St.of 21 [(0,.sl 3 x0),(3,.sl 3 x3),(4,.int .i64 x4)] []) H:=by
 intro n
 induction n with
 | zero=>intros; rfl
 | succ n ih=>
  intros x0 x3 x4 H
  simp only [l0,j1_eq rec k,ih,-eq_self]
  kernel_rfl
theorem f_eq (rec:Rec) (k:Nat):∀ a0 H,f rec k a0 H=ex PP o rec k body (St.of 21 [(0,.sl 3 a0)] []) H (K0 PP Go.Proofs.Try.f94):=by
 intros a0 H
 unfold f
 try simp only [l0_eq rec k,-eq_self]
 kernel_rfl
theorem call (k:Nat):∀ a0 H,callF PP orc (k + 1) spec_l1OwnRuleList.id [.sl 3 a0] H=f (callF PP orc k) k a0 H:=by
 intros a0 H
 rw [callF_at (fn:=Go.Proofs.Try.f94) (c:=body) Go.Proofs.Try.func94 (by kernel_rfl) (Nat.le_of_ble_eq_true (by kernel_rfl)),f_eq]
 kernel_rfl
end spec_l1OwnRuleList
namespace spec_l1OwnPuzzle
noncomputable def body:Code:=(Go.Proofs.Try.f56).body.getD .skip
noncomputable def f (rec:Rec) (k:Nat) (a0_0:Int) (a0_1:Sl) (a0_2:Sl) (H:Hp):An:=(H.read 1 a0_1).bind fun c2=>(H.appl 1 [] 0 a0_1.len c2).bind fun w1=>bif true && c2.all AV.cell then (rec spec_l1OwnRuleList.id [.sl 3 a0_2] w1.2).bind fun r3=>(r3.1.toS 3).bind fun s4=>some (.agg [.int .i64 a0_0,.sl 1 w1.1,.sl 3 s4],r3.2) else none
theorem f_eq (rec:Rec) (k:Nat):∀ a0_0 a0_1 a0_2 H,f rec k a0_0 a0_1 a0_2 H=ex PP (orc spec_l1OwnPuzzle.id) rec k body (St.of 15 [(0,.agg [.int .i64 a0_0,.sl 1 a0_1,.sl 3 a0_2])] []) H (K0 PP Go.Proofs.Try.f56):=by
 intros a0_0 a0_1 a0_2 H
 unfold f
 kernel_rfl
theorem call (k:Nat):∀ a0_0 a0_1 a0_2 H,callF PP orc (k + 1) spec_l1OwnPuzzle.id [.agg [.int .i64 a0_0,.sl 1 a0_1,.sl 3 a0_2]] H=f (callF PP orc k) k a0_0 a0_1 a0_2 H:=by
 intros a0_0 a0_1 a0_2 H
 rw [callF_at (fn:=Go.Proofs.Try.f56) (c:=body) Go.Proofs.Try.func56 (by kernel_rfl) (Nat.le_of_ble_eq_true (by kernel_rfl)),f_eq]
 kernel_rfl
end spec_l1OwnPuzzle
namespace spec_l10Without
noncomputable def body:Code:=(Go.Proofs.Try.f58).body.getD .skip
noncomputable def f (rec:Rec) (k:Nat) (a0_0:Int) (a0_1:Sl) (a0_2:Sl) (a1:Int) (H:Hp):An:=(H.read 1 a0_1).bind fun c2=>(H.appl 1 [] 0 a0_1.len c2).bind fun w1=>bif true && c2.all AV.cell then bif decide (0 ≤ (a1:Int)) && decide ((a1:Int) < w1.1.len) then (w1.2.sto w1.1.blk (w1.1.off + (a1:Int).toNat * 1) [.int .i64 0]).bind fun H3=>some (.agg [.int .i64 a0_0,.sl 1 w1.1,.sl 3 a0_2],H3) else none else none
theorem f_eq (rec:Rec) (k:Nat):∀ a0_0 a0_1 a0_2 a1 H,f rec k a0_0 a0_1 a0_2 a1 H=ex PP (orc spec_l10Without.id) rec k body (St.of 19 [(0,.agg [.int .i64 a0_0,.sl 1 a0_1,.sl 3 a0_2]),(1,.int .i64 a1)] []) H (K0 PP Go.Proofs.Try.f58):=by
 intros a0_0 a0_1 a0_2 a1 H
 unfold f
 kernel_rfl
theorem call (k:Nat):∀ a0_0 a0_1 a0_2 a1 H,callF PP orc (k + 1) spec_l10Without.id [.agg [.int .i64 a0_0,.sl 1 a0_1,.sl 3 a0_2],.int .i64 a1] H=f (callF PP orc k) k a0_0 a0_1 a0_2 a1 H:=by
 intros a0_0 a0_1 a0_2 a1 H
 rw [callF_at (fn:=Go.Proofs.Try.f58) (c:=body) Go.Proofs.Try.func58 (by kernel_rfl) (Nat.le_of_ble_eq_true (by kernel_rfl)),f_eq]
 kernel_rfl
end spec_l10Without
namespace impl_copyPuzzle
noncomputable def body:Code:=(Go.Proofs.Try.f54).body.getD .skip
abbrev o:=orc impl_copyPuzzle.id
noncomputable def j1 (rec:Rec) (k:Nat) (y2_0:Int) (y2_1:Sl) (y2_2:Sl) (y3_0:Int) (y3_1:Sl) (y3_2:Sl) (H:Hp):An:=some (.agg [.int .i64 y3_0,.sl 1 y3_1,.sl 3 y3_2],H)
noncomputable def l0 (rec:Rec) (k:Nat):Nat→Sl→Int→Int→Int→Sl→Sl→Int→Sl→Sl→Hp→An
 | 0,_,_,_,_,_,_,_,_,_,_=>none
 | n + 1,x13,x14,x15,y2_0,y2_1,y2_2,y3_0,y3_1,y3_2,H=>bif decide (x15 < x14) then bif decide (0 ≤ (x15:Int)) && decide ((x15:Int) < x13.len) then (ldI .i64 H x13.blk (x13.off + (x15:Int).toNat * 3)).bind fun n3=>(ldS 1 H x13.blk (x13.off + (x15:Int).toNat * 3 + 1)).bind fun s4=>(ldI .i64 H x13.blk (x13.off + (x15:Int).toNat * 3 + 1 + 1)).bind fun n5=>(rec slices_Clone_int.id [.sl 1 s4] H).bind fun r6=>(r6.1.toS 1).bind fun s7=>(r6.2.app 3 y3_2 1 [.int .i64 n3,.sl 1 s7,.int .i64 n5]).bind fun w8=>(l0 rec k n) x13 x14 (IntKind.i64.wrap (x15 + 1)) y2_0 y2_1 y2_2 y3_0 y3_1 w8.1 w8.2 else none else j1 rec k y2_0 y2_1 y2_2 y3_0 y3_1 y3_2 H
noncomputable def f (rec:Rec) (k:Nat) (a0_0:Int) (a0_1:Sl) (a0_2:Sl) (H:Hp):An:=(rec slices_Clone_int.id [.sl 1 a0_1] H).bind fun r1=>(r1.1.toS 1).bind fun s2=>l0 rec k k a0_2 (a0_2.len:Int) 0 0 Sl.none Sl.none a0_0 s2 Sl.none r1.2
theorem j1_eq (rec:Rec) (k:Nat):∀ y2_0 y2_1 y2_2 y3_0 y3_1 y3_2 H,j1 rec k y2_0 y2_1 y2_2 y3_0 y3_1 y3_2 H=ex PP o rec k (sub body [1,1,1]) (St.of 31 [(2,.lp 2 0),(3,.lp 3 0)] [(2,[.int .i64 y2_0,.sl 1 y2_1,.sl 3 y2_2]),(3,[.int .i64 y3_0,.sl 1 y3_1,.sl 3 y3_2])]) H (kAt PP o rec k body [1,1,1] [] (K0 PP Go.Proofs.Try.f54)):=by
 intros y2_0 y2_1 y2_2 y3_0 y3_1 y3_2 H
 unfold j1
 kernel_rfl
theorem l0_eq (rec:Rec) (k:Nat):∀ n x13 x14 x15 y2_0 y2_1 y2_2 y3_0 y3_1 y3_2 H,l0 rec k n x13 x14 x15 y2_0 y2_1 y2_2 y3_0 y3_1 y3_2 H=iter (o.at (lbody (sub body [1,1,0,1,0]))) (ex PP o rec k (lbody (sub body [1,1,0,1,0]))) (kAt PP o rec k body [1,1,0,1,0] [] (K0 PP Go.Proofs.Try.f54)) n (St.of 31 [(2,.lp 2 0),(3,.lp 3 0),(13,.sl 3 x13),(14,.int .i64 x14),(15,.int .i64 x15)] [(2,[.int .i64 y2_0,.sl 1 y2_1,.sl 3 y2_2]),(3,[.int .i64 y3_0,.sl 1 y3_1,.sl 3 y3_2])]) H:=by
 intro n
 induction n with
 | zero=>intros; rfl
 | succ n ih=>
  intros x13 x14 x15 y2_0 y2_1 y2_2 y3_0 y3_1 y3_2 H
  simp only [l0,j1_eq rec k,ih,-eq_self]
  kernel_rfl
theorem f_eq (rec:Rec) (k:Nat):∀ a0_0 a0_1 a0_2 H,f rec k a0_0 a0_1 a0_2 H=ex PP o rec k body (St.of 31 [(0,.agg [.int .i64 a0_0,.sl 1 a0_1,.sl 3 a0_2])] []) H (K0 PP Go.Proofs.Try.f54):=by
 intros a0_0 a0_1 a0_2 H
 unfold f
 try simp only [l0_eq rec k,-eq_self]
 kernel_rfl
theorem call (k:Nat):∀ a0_0 a0_1 a0_2 H,callF PP orc (k + 1) impl_copyPuzzle.id [.agg [.int .i64 a0_0,.sl 1 a0_1,.sl 3 a0_2]] H=f (callF PP orc k) k a0_0 a0_1 a0_2 H:=by
 intros a0_0 a0_1 a0_2 H
 rw [callF_at (fn:=Go.Proofs.Try.f54) (c:=body) Go.Proofs.Try.func54 (by kernel_rfl) (Nat.le_of_ble_eq_true (by kernel_rfl)),f_eq]
 kernel_rfl
end impl_copyPuzzle
namespace impl_without
noncomputable def body:Code:=(Go.Proofs.Try.f55).body.getD .skip
abbrev o:=orc impl_without.id
noncomputable def j1 (rec:Rec) (k:Nat) (y4_0:Int) (y4_1:Sl) (y4_2:Sl) (y5_0:Int) (y5_1:Sl) (y5_2:Sl) (H:Hp):An:=some (.agg [.int .i64 y5_0,.sl 1 y5_1,.sl 3 y5_2],H)
noncomputable def l0 (rec:Rec) (k:Nat):Nat→Sl→Int→Int→Int→Sl→Sl→Int→Sl→Sl→Hp→An
 | 0,_,_,_,_,_,_,_,_,_,_=>none
 | n + 1,x10,x11,x12,y4_0,y4_1,y4_2,y5_0,y5_1,y5_2,H=>bif decide (x12 < x11) then bif decide (0 ≤ (x12:Int)) && decide ((x12:Int) < x10.len) then (ldI .i64 H x10.blk (x10.off + (x12:Int).toNat * 1)).bind fun n5=>bif decide (0 ≤ (n5:Int)) && decide ((n5:Int) < y5_1.len) then (H.sto y5_1.blk (y5_1.off + (n5:Int).toNat * 1) [.int .i64 0]).bind fun H6=>(l0 rec k n) x10 x11 (IntKind.i64.wrap (x12 + 1)) y4_0 y4_1 y4_2 y5_0 y5_1 y5_2 H6 else none else none else j1 rec k y4_0 y4_1 y4_2 y5_0 y5_1 y5_2 H
noncomputable def f (rec:Rec) (k:Nat) (a0_0:Int) (a0_1:Sl) (a0_2:Sl) (a1:Sl) (H:Hp):An:=(rec impl_copyPuzzle.id [.agg [.int .i64 a0_0,.sl 1 a0_1,.sl 3 a0_2]] H).bind fun r1=>bif r1.1.isAgg 3 then ((r1.1.cel 0).toI .i64).bind fun n2=>((r1.1.cel 1).toS 1).bind fun s3=>((r1.1.cel 2).toS 3).bind fun s4=>l0 rec k k a1 (a1.len:Int) 0 0 Sl.none Sl.none n2 s3 s4 r1.2 else none
theorem j1_eq (rec:Rec) (k:Nat):∀ y4_0 y4_1 y4_2 y5_0 y5_1 y5_2 H,j1 rec k y4_0 y4_1 y4_2 y5_0 y5_1 y5_2 H=ex PP o rec k (sub body [1,1,1]) (St.of 22 [(4,.lp 4 0),(5,.lp 5 0)] [(4,[.int .i64 y4_0,.sl 1 y4_1,.sl 3 y4_2]),(5,[.int .i64 y5_0,.sl 1 y5_1,.sl 3 y5_2])]) H (kAt PP o rec k body [1,1,1] [] (K0 PP Go.Proofs.Try.f55)):=by
 intros y4_0 y4_1 y4_2 y5_0 y5_1 y5_2 H
 unfold j1
 kernel_rfl
theorem l0_eq (rec:Rec) (k:Nat):∀ n x10 x11 x12 y4_0 y4_1 y4_2 y5_0 y5_1 y5_2 H,l0 rec k n x10 x11 x12 y4_0 y4_1 y4_2 y5_0 y5_1 y5_2 H=iter (o.at (lbody (sub body [1,1,0,1,0]))) (ex PP o rec k (lbody (sub body [1,1,0,1,0]))) (kAt PP o rec k body [1,1,0,1,0] [] (K0 PP Go.Proofs.Try.f55)) n (St.of 22 [(4,.lp 4 0),(5,.lp 5 0),(10,.sl 1 x10),(11,.int .i64 x11),(12,.int .i64 x12)] [(4,[.int .i64 y4_0,.sl 1 y4_1,.sl 3 y4_2]),(5,[.int .i64 y5_0,.sl 1 y5_1,.sl 3 y5_2])]) H:=by
 intro n
 induction n with
 | zero=>intros; rfl
 | succ n ih=>
  intros x10 x11 x12 y4_0 y4_1 y4_2 y5_0 y5_1 y5_2 H
  simp only [l0,j1_eq rec k,ih,-eq_self]
  kernel_rfl
theorem f_eq (rec:Rec) (k:Nat):∀ a0_0 a0_1 a0_2 a1 H,f rec k a0_0 a0_1 a0_2 a1 H=ex PP o rec k body (St.of 22 [(0,.agg [.int .i64 a0_0,.sl 1 a0_1,.sl 3 a0_2]),(1,.sl 1 a1)] []) H (K0 PP Go.Proofs.Try.f55):=by
 intros a0_0 a0_1 a0_2 a1 H
 unfold f
 try simp only [l0_eq rec k,-eq_self]
 kernel_rfl
theorem call (k:Nat):∀ a0_0 a0_1 a0_2 a1 H,callF PP orc (k + 1) impl_without.id [.agg [.int .i64 a0_0,.sl 1 a0_1,.sl 3 a0_2],.sl 1 a1] H=f (callF PP orc k) k a0_0 a0_1 a0_2 a1 H:=by
 intros a0_0 a0_1 a0_2 a1 H
 rw [callF_at (fn:=Go.Proofs.Try.f55) (c:=body) Go.Proofs.Try.func55 (by kernel_rfl) (Nat.le_of_ble_eq_true (by kernel_rfl)),f_eq]
 kernel_rfl
end impl_without
namespace laws_sameInts
noncomputable def body:Code:=(Go.Proofs.Try.f21).body.getD .skip
abbrev o:=orc laws_sameInts.id
noncomputable def l0 (rec:Rec) (k:Nat):Nat→Sl→Sl→Int→Hp→An
 | 0,_,_,_,_=>none
 | n + 1,x0,x1,x5,H=>bif decide (x5 < (x0.len:Int)) then bif decide (0 ≤ (x5:Int)) && decide ((x5:Int) < x0.len) then (ldI .i64 H x0.blk (x0.off + (x5:Int).toNat * 1)).bind fun n1=>bif decide (0 ≤ (x5:Int)) && decide ((x5:Int) < x1.len) then (ldI .i64 H x1.blk (x1.off + (x5:Int).toNat * 1)).bind fun n2=>bif n1 != n2 then some (.bool false,H) else (l0 rec k n) x0 x1 (IntKind.i64.wrap (x5 + 1)) H else none else none else some (.bool true,H)
noncomputable def f (rec:Rec) (k:Nat) (a0:Sl) (a1:Sl) (H:Hp):An:=bif (a0.len:Int) != (a1.len:Int) then some (.bool false,H) else l0 rec k k a0 a1 0 H
theorem l0_eq (rec:Rec) (k:Nat):∀ n x0 x1 x5 H,l0 rec k n x0 x1 x5 H=iter (o.at (lbody (sub body [1,1,0,1,0]))) (ex PP o rec k (lbody (sub body [1,1,0,1,0]))) (kAt PP o rec k body [1,1,0,1,0] [] (K0 PP Go.Proofs.Try.f21)) n (St.of 26 [(0,.sl 1 x0),(1,.sl 1 x1),(5,.int .i64 x5)] []) H:=by
 intro n
 induction n with
 | zero=>intros; rfl
 | succ n ih=>
  intros x0 x1 x5 H
  simp only [l0,ih,-eq_self]
  kernel_rfl
theorem f_eq (rec:Rec) (k:Nat):∀ a0 a1 H,f rec k a0 a1 H=ex PP o rec k body (St.of 26 [(0,.sl 1 a0),(1,.sl 1 a1)] []) H (K0 PP Go.Proofs.Try.f21):=by
 intros a0 a1 H
 unfold f
 try simp only [l0_eq rec k,-eq_self]
 kernel_rfl
theorem call (k:Nat):∀ a0 a1 H,callF PP orc (k + 1) laws_sameInts.id [.sl 1 a0,.sl 1 a1] H=f (callF PP orc k) k a0 a1 H:=by
 intros a0 a1 H
 rw [callF_at (fn:=Go.Proofs.Try.f21) (c:=body) Go.Proofs.Try.func21 (by kernel_rfl) (Nat.le_of_ble_eq_true (by kernel_rfl)),f_eq]
 kernel_rfl
end laws_sameInts
namespace laws_samePuzzle
noncomputable def body:Code:=(Go.Proofs.Try.f16).body.getD .skip
abbrev o:=orc laws_samePuzzle.id
abbrev TL2:=Int→Int→Sl→Sl→Int→Sl→Sl→Hp→An
abbrev PhL2 (rec:Rec) (k n2:Nat) (L2:TL2):Prop:=∀ x5 y2_0 y2_1 y2_2 y3_0 y3_1 y3_2 H,L2 x5 y2_0 y2_1 y2_2 y3_0 y3_1 y3_2 H=iter (o.at (lbody (sub body [1,1,0,1,0]))) (ex PP o rec k (lbody (sub body [1,1,0,1,0]))) (kAt PP o rec k body [1,1,0,1,0] [] (K0 PP Go.Proofs.Try.f16)) n2 (St.of 79 [(2,.lp 2 0),(3,.lp 3 0),(5,.int .i64 x5)] [(2,[.int .i64 y2_0,.sl 1 y2_1,.sl 3 y2_2]),(3,[.int .i64 y3_0,.sl 1 y3_1,.sl 3 y3_2])]) H
noncomputable def j4 (rec:Rec) (k:Nat) (L2:TL2) (x5:Int) (y2_0:Int) (y2_1:Sl) (y2_2:Sl) (y3_0:Int) (y3_1:Sl) (y3_2:Sl) (H:Hp):An:=L2 (IntKind.i64.wrap (x5 + 1)) y2_0 y2_1 y2_2 y3_0 y3_1 y3_2 H
noncomputable def j3 (rec:Rec) (k:Nat) (L2:TL2) (x5:Int) (x78:Bool) (y2_0:Int) (y2_1:Sl) (y2_2:Sl) (y3_0:Int) (y3_1:Sl) (y3_2:Sl) (H:Hp):An:=bif x78 then some (.bool false,H) else j4 rec k L2 x5 y2_0 y2_1 y2_2 y3_0 y3_1 y3_2 H
noncomputable def l2 (rec:Rec) (k:Nat):Nat→Int→Int→Sl→Sl→Int→Sl→Sl→Hp→An
 | 0,_,_,_,_,_,_,_,_=>none
 | n + 1,x5,y2_0,y2_1,y2_2,y3_0,y3_1,y3_2,H=>bif decide (x5 < (y2_2.len:Int)) then bif decide (0 ≤ (x5:Int)) && decide ((x5:Int) < y2_2.len) then (ldI .i64 H y2_2.blk (y2_2.off + (x5:Int).toNat * 3 + 0)).bind fun n3=>bif decide (0 ≤ (x5:Int)) && decide ((x5:Int) < y3_2.len) then (ldI .i64 H y3_2.blk (y3_2.off + (x5:Int).toNat * 3 + 0)).bind fun n4=>bif n3 != n4 then j3 rec k (l2 rec k n) x5 true y2_0 y2_1 y2_2 y3_0 y3_1 y3_2 H else bif decide (0 ≤ (x5:Int)) && decide ((x5:Int) < y2_2.len) then (ldI .i64 H y2_2.blk (y2_2.off + (x5:Int).toNat * 3 + 2)).bind fun n5=>bif decide (0 ≤ (x5:Int)) && decide ((x5:Int) < y3_2.len) then (ldI .i64 H y3_2.blk (y3_2.off + (x5:Int).toNat * 3 + 2)).bind fun n6=>bif n5 != n6 then j3 rec k (l2 rec k n) x5 true y2_0 y2_1 y2_2 y3_0 y3_1 y3_2 H else bif decide (0 ≤ (x5:Int)) && decide ((x5:Int) < y2_2.len) then (ldS 1 H y2_2.blk (y2_2.off + (x5:Int).toNat * 3 + 1)).bind fun s7=>bif decide (0 ≤ (x5:Int)) && decide ((x5:Int) < y3_2.len) then (ldS 1 H y3_2.blk (y3_2.off + (x5:Int).toNat * 3 + 1)).bind fun s8=>(rec laws_sameInts.id [.sl 1 s7,.sl 1 s8] H).bind fun r9=>r9.1.toB.bind fun b10=>j3 rec k (l2 rec k n) x5 (!b10) y2_0 y2_1 y2_2 y3_0 y3_1 y3_2 r9.2 else none else none else none else none else none else none else some (.bool true,H)
noncomputable def j1 (rec:Rec) (k:Nat) (y2_0:Int) (y2_1:Sl) (y2_2:Sl) (y3_0:Int) (y3_1:Sl) (y3_2:Sl) (H:Hp):An:=l2 rec k k 0 y2_0 y2_1 y2_2 y3_0 y3_1 y3_2 H
noncomputable def j0 (rec:Rec) (k:Nat) (x27:Bool) (y2_0:Int) (y2_1:Sl) (y2_2:Sl) (y3_0:Int) (y3_1:Sl) (y3_2:Sl) (H:Hp):An:=bif x27 then some (.bool false,H) else j1 rec k y2_0 y2_1 y2_2 y3_0 y3_1 y3_2 H
noncomputable def f (rec:Rec) (k:Nat) (a0_0:Int) (a0_1:Sl) (a0_2:Sl) (a1_0:Int) (a1_1:Sl) (a1_2:Sl) (H:Hp):An:=bif a0_0 != a1_0 then j0 rec k true a0_0 a0_1 a0_2 a1_0 a1_1 a1_2 H else (rec laws_sameInts.id [.sl 1 a0_1,.sl 1 a1_1] H).bind fun r1=>r1.1.toB.bind fun b2=>bif !b2 then j0 rec k true a0_0 a0_1 a0_2 a1_0 a1_1 a1_2 r1.2 else j0 rec k ((a0_2.len:Int) != (a1_2.len:Int)) a0_0 a0_1 a0_2 a1_0 a1_1 a1_2 r1.2
theorem j4_eq (rec:Rec) (k:Nat) (n2:Nat) (L2:TL2) (hL2:PhL2 rec k n2 L2):∀ x5 y2_0 y2_1 y2_2 y3_0 y3_1 y3_2 H,j4 rec k L2 x5 y2_0 y2_1 y2_2 y3_0 y3_1 y3_2 H=ex PP o rec k (sub body [1,1,0,1,0,0,1,1]) (St.of 79 [(2,.lp 2 0),(3,.lp 3 0),(5,.int .i64 x5)] [(2,[.int .i64 y2_0,.sl 1 y2_1,.sl 3 y2_2]),(3,[.int .i64 y3_0,.sl 1 y3_1,.sl 3 y3_2])]) H (kAt PP o rec k body [1,1,0,1,0,0,1,1] [n2] (K0 PP Go.Proofs.Try.f16)):=by
 intros x5 y2_0 y2_1 y2_2 y3_0 y3_1 y3_2 H
 unfold j4
 try simp only [hL2,-eq_self]
 kernel_rfl
theorem j3_eq (rec:Rec) (k:Nat) (n2:Nat) (L2:TL2) (hL2:PhL2 rec k n2 L2):∀ x5 x78 y2_0 y2_1 y2_2 y3_0 y3_1 y3_2 H,j3 rec k L2 x5 x78 y2_0 y2_1 y2_2 y3_0 y3_1 y3_2 H=ex PP o rec k (sub body [1,1,0,1,0,0,1,0,0,1]) (St.of 79 [(2,.lp 2 0),(3,.lp 3 0),(5,.int .i64 x5),(78,.bool x78)] [(2,[.int .i64 y2_0,.sl 1 y2_1,.sl 3 y2_2]),(3,[.int .i64 y3_0,.sl 1 y3_1,.sl 3 y3_2])]) H (kAt PP o rec k body [1,1,0,1,0,0,1,0,0,1] [n2] (K0 PP Go.Proofs.Try.f16)):=by
 intros x5 x78 y2_0 y2_1 y2_2 y3_0 y3_1 y3_2 H
 unfold j3
 try simp only [hL2,j4_eq rec k n2 L2 hL2,-eq_self]
 kernel_rfl
theorem l2_eq (rec:Rec) (k:Nat):∀ n x5 y2_0 y2_1 y2_2 y3_0 y3_1 y3_2 H,l2 rec k n x5 y2_0 y2_1 y2_2 y3_0 y3_1 y3_2 H=iter (o.at (lbody (sub body [1,1,0,1,0]))) (ex PP o rec k (lbody (sub body [1,1,0,1,0]))) (kAt PP o rec k body [1,1,0,1,0] [] (K0 PP Go.Proofs.Try.f16)) n (St.of 79 [(2,.lp 2 0),(3,.lp 3 0),(5,.int .i64 x5)] [(2,[.int .i64 y2_0,.sl 1 y2_1,.sl 3 y2_2]),(3,[.int .i64 y3_0,.sl 1 y3_1,.sl 3 y3_2])]) H:=by
 intro n
 induction n with
 | zero=>intros; rfl
 | succ n ih=>
  intros x5 y2_0 y2_1 y2_2 y3_0 y3_1 y3_2 H
  simp only [l2,j3_eq rec k n (l2 rec k n) (fun x5 y2_0 y2_1 y2_2 y3_0 y3_1 y3_2 H=>ih x5 y2_0 y2_1 y2_2 y3_0 y3_1 y3_2 H),ih,-eq_self]
  kernel_rfl
theorem j1_eq (rec:Rec) (k:Nat):∀ y2_0 y2_1 y2_2 y3_0 y3_1 y3_2 H,j1 rec k y2_0 y2_1 y2_2 y3_0 y3_1 y3_2 H=ex PP o rec k (sub body [1,1]) (St.of 79 [(2,.lp 2 0),(3,.lp 3 0)] [(2,[.int .i64 y2_0,.sl 1 y2_1,.sl 3 y2_2]),(3,[.int .i64 y3_0,.sl 1 y3_1,.sl 3 y3_2])]) H (kAt PP o rec k body [1,1] [] (K0 PP Go.Proofs.Try.f16)):=by
 intros y2_0 y2_1 y2_2 y3_0 y3_1 y3_2 H
 unfold j1
 try simp only [l2_eq rec k,-eq_self]
 kernel_rfl
theorem j0_eq (rec:Rec) (k:Nat):∀ x27 y2_0 y2_1 y2_2 y3_0 y3_1 y3_2 H,j0 rec k x27 y2_0 y2_1 y2_2 y3_0 y3_1 y3_2 H=ex PP o rec k (sub body [1,0,1]) (St.of 79 [(2,.lp 2 0),(3,.lp 3 0),(27,.bool x27)] [(2,[.int .i64 y2_0,.sl 1 y2_1,.sl 3 y2_2]),(3,[.int .i64 y3_0,.sl 1 y3_1,.sl 3 y3_2])]) H (kAt PP o rec k body [1,0,1] [] (K0 PP Go.Proofs.Try.f16)):=by
 intros x27 y2_0 y2_1 y2_2 y3_0 y3_1 y3_2 H
 unfold j0
 try simp only [j1_eq rec k,-eq_self]
 kernel_rfl
theorem f_eq (rec:Rec) (k:Nat):∀ a0_0 a0_1 a0_2 a1_0 a1_1 a1_2 H,f rec k a0_0 a0_1 a0_2 a1_0 a1_1 a1_2 H=ex PP o rec k body (St.of 79 [(0,.agg [.int .i64 a0_0,.sl 1 a0_1,.sl 3 a0_2]),(1,.agg [.int .i64 a1_0,.sl 1 a1_1,.sl 3 a1_2])] []) H (K0 PP Go.Proofs.Try.f16):=by
 intros a0_0 a0_1 a0_2 a1_0 a1_1 a1_2 H
 unfold f
 try simp only [j0_eq rec k,-eq_self]
 kernel_rfl
theorem call (k:Nat):∀ a0_0 a0_1 a0_2 a1_0 a1_1 a1_2 H,callF PP orc (k + 1) laws_samePuzzle.id [.agg [.int .i64 a0_0,.sl 1 a0_1,.sl 3 a0_2],.agg [.int .i64 a1_0,.sl 1 a1_1,.sl 3 a1_2]] H=f (callF PP orc k) k a0_0 a0_1 a0_2 a1_0 a1_1 a1_2 H:=by
 intros a0_0 a0_1 a0_2 a1_0 a1_1 a1_2 H
 rw [callF_at (fn:=Go.Proofs.Try.f16) (c:=body) Go.Proofs.Try.func16 (by kernel_rfl) (Nat.le_of_ble_eq_true (by kernel_rfl)),f_eq]
 kernel_rfl
end laws_samePuzzle
end Go.Proofs.Ytchliocobgkmbaa.Rp
