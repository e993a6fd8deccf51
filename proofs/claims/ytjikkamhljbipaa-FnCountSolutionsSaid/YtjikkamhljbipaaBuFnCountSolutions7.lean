/- Texts for the row of the law FnCountSolutions, part 7: the plain machine, the program's functions on it, what they come to. No conditions. -/
import Derived.Test.YtjikkamhljbipaaAb
import Derived.Test.YtjikkamhljbipaaOr
set_option linter.unusedVariables false
set_option linter.unusedSimpArgs false
set_option maxRecDepth 100000
namespace Go.Proofs.Ytjikkamhljbipaa.Rp
open Go Go.Proofs.Ytjikkamhljbipaa.Ab
namespace impl_solutions
noncomputable def body:Code:=(Go.Proofs.Try.f53).body.getD .skip
noncomputable def f (rec:Rec) (k:Nat) (a0_0:Int) (a0_1:Sl) (a0_2:Sl) (a1:Sl) (a2f:Nat) (a2c:List AV) (H:Hp):An:=(rec slices_Clone_int.id [.sl 1 a1] (H ++ [some (Blk.mk false [.int .i64 a0_0,.sl 1 a0_1,.sl 3 a0_2])] ++ [some (Blk.mk false [.fn a2f a2c])])).bind fun r1=>(r1.1.toS 1).bind fun s2=>((r1.2 ++ [some (Blk.mk false [.sl 1 Sl.none])]).sto r1.2.length 0 [.sl 1 s2]).bind fun H3=>(ldI .i64 H3 H.length 0).bind fun n4=>(ldS 1 H3 H.length (0 + 1)).bind fun s5=>(ldS 3 H3 H.length (0 + 1 + 1)).bind fun s6=>(ldS 1 H3 r1.2.length 0).bind fun s7=>(rec impl_PuzzleFits.id [.agg [.int .i64 n4,.sl 1 s5,.sl 3 s6],.sl 1 s7] H3).bind fun r8=>r8.1.toB.bind fun b9=>bif !b9 then some (.tup [],r8.2) else (ldI .i64 r8.2 H.length (0 + 0)).bind fun n10=>((r8.2 ++ [some (Blk.mk false [.int .i64 0])]).sto r8.2.length 0 [.int .i64 n10]).bind fun H11=>((H11 ++ [some (Blk.mk false [.nilf])]).sto H11.length 0 [.fn impl_solutions_1.id [.ptr r1.2.length 0,.ptr ((H ++ [some (Blk.mk false [.int .i64 a0_0,.sl 1 a0_1,.sl 3 a0_2])]).length) 0,.ptr H11.length 0,.ptr r8.2.length 0,.ptr H.length 0]]).bind fun H12=>(ldF H12 H11.length 0).bind fun q13=>bif okF Go.Proofs.Try.prog q13.1 && ([.int .i64 0] ++ q13.2:List AV).all AV.glob then (rec q13.1 ([.int .i64 0] ++ q13.2) H12).bind fun r14=>r14.1.toB.bind fun b15=>some (.tup [],r14.2) else none
theorem f_eq (rec:Rec) (k:Nat):∀ a0_0 a0_1 a0_2 a1 a2f a2c H,f rec k a0_0 a0_1 a0_2 a1 a2f a2c H=ex PP (orc impl_solutions.id) rec k body (St.of 20 [(0,.agg [.int .i64 a0_0,.sl 1 a0_1,.sl 3 a0_2]),(1,.sl 1 a1),(2,.fn a2f a2c)] []) H (K0 PP Go.Proofs.Try.f53):=by
 intros a0_0 a0_1 a0_2 a1 a2f a2c H
 unfold f
 kernel_rfl
theorem call (k:Nat):∀ a0_0 a0_1 a0_2 a1 a2f a2c H,callF PP orc (k + 1) impl_solutions.id [.agg [.int .i64 a0_0,.sl 1 a0_1,.sl 3 a0_2],.sl 1 a1,.fn a2f a2c] H=f (callF PP orc k) k a0_0 a0_1 a0_2 a1 a2f a2c H:=by
 intros a0_0 a0_1 a0_2 a1 a2f a2c H
 rw [callF_at (fn:=Go.Proofs.Try.f53) (c:=body) Go.Proofs.Try.func53 (by kernel_rfl) (Nat.le_of_ble_eq_true (by kernel_rfl)),f_eq]
 kernel_rfl
end impl_solutions
namespace impl_solutions_1
noncomputable def body:Code:=(Go.Proofs.Try.f83).body.getD .skip
abbrev o:=orc impl_solutions_1.id
abbrev TL0:=Int→Nat→Nat→Nat→Nat→Nat→Nat→Nat→Nat→Int→Hp→An
abbrev PhL0 (rec:Rec) (k n0:Nat) (L0:TL0):Prop:=∀ x0 x1b x1o x3b x3o x4b x4o x5b x5o x8 H,L0 x0 x1b x1o x3b x3o x4b x4o x5b x5o x8 H=iter (o.at (lbody (sub body [1,1,1,0,1,0]))) (ex PP o rec k (lbody (sub body [1,1,1,0,1,0]))) (kAt PP o rec k body [1,1,1,0,1,0] [] (K0 PP Go.Proofs.Try.f83)) n0 (St.of 48 [(0,.int .i64 x0),(1,.ptr x1b x1o),(3,.ptr x3b x3o),(4,.ptr x4b x4o),(5,.ptr x5b x5o),(8,.int .i64 x8)] []) H
noncomputable def j2 (rec:Rec) (k:Nat) (x0:Int) (x1b:Nat) (x1o:Nat) (H:Hp):An:=(ldS 1 H x1b x1o).bind fun s23=>bif decide (0 ≤ (x0:Int)) && decide ((x0:Int) < s23.len) then (H.sto s23.blk (s23.off + (x0:Int).toNat * 1) [.int .i64 0]).bind fun H24=>some (.bool true,H24) else none
noncomputable def j3 (rec:Rec) (k:Nat) (L0:TL0) (x0:Int) (x1b:Nat) (x1o:Nat) (x3b:Nat) (x3o:Nat) (x4b:Nat) (x4o:Nat) (x5b:Nat) (x5o:Nat) (x8:Int) (H:Hp):An:=L0 x0 x1b x1o x3b x3o x4b x4o x5b x5o (IntKind.i64.wrap (x8 + 1)) H
noncomputable def j1 (rec:Rec) (k:Nat) (L0:TL0) (x0:Int) (x1b:Nat) (x1o:Nat) (x3b:Nat) (x3o:Nat) (x4b:Nat) (x4o:Nat) (x5b:Nat) (x5o:Nat) (x8:Int) (x44:Bool) (H:Hp):An:=bif x44 then some (.bool false,H) else j3 rec k L0 x0 x1b x1o x3b x3o x4b x4o x5b x5o x8 H
noncomputable def l0 (rec:Rec) (k:Nat):Nat→Int→Nat→Nat→Nat→Nat→Nat→Nat→Nat→Nat→Int→Hp→An
 | 0,_,_,_,_,_,_,_,_,_,_,_=>none
 | n + 1,x0,x1b,x1o,x3b,x3o,x4b,x4o,x5b,x5o,x8,H=>(ldI .i64 H x4b x4o).bind fun n11=>bif decide (x8 ≤ n11) then (ldS 1 H x1b x1o).bind fun s12=>bif decide (0 ≤ (x0:Int)) && decide ((x0:Int) < s12.len) then (H.sto s12.blk (s12.off + (x0:Int).toNat * 1) [.int .i64 x8]).bind fun H13=>(ldI .i64 H13 x5b x5o).bind fun n14=>(ldS 1 H13 x5b (x5o + 1)).bind fun s15=>(ldS 3 H13 x5b (x5o + 1 + 1)).bind fun s16=>(ldS 1 H13 x1b x1o).bind fun s17=>(rec impl_cellFits.id [.agg [.int .i64 n14,.sl 1 s15,.sl 3 s16],.sl 1 s17,.int .i64 x0] H13).bind fun r18=>r18.1.toB.bind fun b19=>bif b19 then (ldF r18.2 x3b x3o).bind fun q20=>bif okF Go.Proofs.Try.prog q20.1 && ([.int .i64 (IntKind.i64.wrap (x0 + 1))] ++ q20.2:List AV).all AV.glob then (rec q20.1 ([.int .i64 (IntKind.i64.wrap (x0 + 1))] ++ q20.2) r18.2).bind fun r21=>r21.1.toB.bind fun b22=>j1 rec k (l0 rec k n) x0 x1b x1o x3b x3o x4b x4o x5b x5o x8 (!b22) r21.2 else none else j1 rec k (l0 rec k n) x0 x1b x1o x3b x3o x4b x4o x5b x5o x8 false r18.2 else none else j2 rec k x0 x1b x1o H
noncomputable def f (rec:Rec) (k:Nat) (a0:Int) (c0b:Nat) (c0o:Nat) (c1b:Nat) (c1o:Nat) (c2b:Nat) (c2o:Nat) (c3b:Nat) (c3o:Nat) (c4b:Nat) (c4o:Nat) (H:Hp):An:=(ldS 1 H c0b c0o).bind fun s1=>bif a0 == (s1.len:Int) then (ldF H c1b c1o).bind fun q2=>(ldS 1 H c0b c0o).bind fun s3=>bif okF Go.Proofs.Try.prog q2.1 && ([.sl 1 s3] ++ q2.2:List AV).all AV.glob then (rec q2.1 ([.sl 1 s3] ++ q2.2) H).bind fun r4=>r4.1.toB.bind fun b5=>some (.bool b5,r4.2) else none else (ldS 1 H c0b c0o).bind fun s6=>bif decide (0 ≤ (a0:Int)) && decide ((a0:Int) < s6.len) then (ldI .i64 H s6.blk (s6.off + (a0:Int).toNat * 1)).bind fun n7=>bif decide (n7 > 0) then (ldF H c2b c2o).bind fun q8=>bif okF Go.Proofs.Try.prog q8.1 && ([.int .i64 (IntKind.i64.wrap (a0 + 1))] ++ q8.2:List AV).all AV.glob then (rec q8.1 ([.int .i64 (IntKind.i64.wrap (a0 + 1))] ++ q8.2) H).bind fun r9=>r9.1.toB.bind fun b10=>some (.bool b10,r9.2) else none else l0 rec k k a0 c0b c0o c2b c2o c3b c3o c4b c4o 1 H else none
theorem j2_eq (rec:Rec) (k:Nat):∀ x0 x1b x1o H,j2 rec k x0 x1b x1o H=ex PP o rec k (sub body [1,1,1,1]) (St.of 48 [(0,.int .i64 x0),(1,.ptr x1b x1o)] []) H (kAt PP o rec k body [1,1,1,1] [] (K0 PP Go.Proofs.Try.f83)):=by
 intros x0 x1b x1o H
 unfold j2
 kernel_rfl
theorem j3_eq (rec:Rec) (k:Nat) (n0:Nat) (L0:TL0) (hL0:PhL0 rec k n0 L0):∀ x0 x1b x1o x3b x3o x4b x4o x5b x5o x8 H,j3 rec k L0 x0 x1b x1o x3b x3o x4b x4o x5b x5o x8 H=ex PP o rec k (sub body [1,1,1,0,1,0,0,1,1]) (St.of 48 [(0,.int .i64 x0),(1,.ptr x1b x1o),(3,.ptr x3b x3o),(4,.ptr x4b x4o),(5,.ptr x5b x5o),(8,.int .i64 x8)] []) H (kAt PP o rec k body [1,1,1,0,1,0,0,1,1] [n0] (K0 PP Go.Proofs.Try.f83)):=by
 intros x0 x1b x1o x3b x3o x4b x4o x5b x5o x8 H
 unfold j3
 try simp only [hL0,-eq_self]
 kernel_rfl
theorem j1_eq (rec:Rec) (k:Nat) (n0:Nat) (L0:TL0) (hL0:PhL0 rec k n0 L0):∀ x0 x1b x1o x3b x3o x4b x4o x5b x5o x8 x44 H,j1 rec k L0 x0 x1b x1o x3b x3o x4b x4o x5b x5o x8 x44 H=ex PP o rec k (sub body [1,1,1,0,1,0,0,1,0,0,1,1]) (St.of 48 [(0,.int .i64 x0),(1,.ptr x1b x1o),(3,.ptr x3b x3o),(4,.ptr x4b x4o),(5,.ptr x5b x5o),(8,.int .i64 x8),(44,.bool x44)] []) H (kAt PP o rec k body [1,1,1,0,1,0,0,1,0,0,1,1] [n0] (K0 PP Go.Proofs.Try.f83)):=by
 intros x0 x1b x1o x3b x3o x4b x4o x5b x5o x8 x44 H
 unfold j1
 try simp only [hL0,j3_eq rec k n0 L0 hL0,-eq_self]
 kernel_rfl
theorem l0_eq (rec:Rec) (k:Nat):∀ n x0 x1b x1o x3b x3o x4b x4o x5b x5o x8 H,l0 rec k n x0 x1b x1o x3b x3o x4b x4o x5b x5o x8 H=iter (o.at (lbody (sub body [1,1,1,0,1,0]))) (ex PP o rec k (lbody (sub body [1,1,1,0,1,0]))) (kAt PP o rec k body [1,1,1,0,1,0] [] (K0 PP Go.Proofs.Try.f83)) n (St.of 48 [(0,.int .i64 x0),(1,.ptr x1b x1o),(3,.ptr x3b x3o),(4,.ptr x4b x4o),(5,.ptr x5b x5o),(8,.int .i64 x8)] []) H:=by
 intro n
 induction n with
 | zero=>intros; rfl
 | succ n ih=>
  intros x0 x1b x1o x3b x3o x4b x4o x5b x5o x8 H
  simp only [l0,j1_eq rec k n (l0 rec k n) (fun x0 x1b x1o x3b x3o x4b x4o x5b x5o x8 H=>ih x0 x1b x1o x3b x3o x4b x4o x5b x5o x8 H),j2_eq rec k,ih,-eq_self]
  kernel_rfl
theorem f_eq (rec:Rec) (k:Nat):∀ a0 c0b c0o c1b c1o c2b c2o c3b c3o c4b c4o H,f rec k a0 c0b c0o c1b c1o c2b c2o c3b c3o c4b c4o H=ex PP o rec k body (St.of 48 [(0,.int .i64 a0),(1,.ptr c0b c0o),(2,.ptr c1b c1o),(3,.ptr c2b c2o),(4,.ptr c3b c3o),(5,.ptr c4b c4o)] []) H (K0 PP Go.Proofs.Try.f83):=by
 intros a0 c0b c0o c1b c1o c2b c2o c3b c3o c4b c4o H
 unfold f
 try simp only [l0_eq rec k,-eq_self]
 kernel_rfl
theorem call (k:Nat):∀ a0 c0b c0o c1b c1o c2b c2o c3b c3o c4b c4o H,callF PP orc (k + 1) impl_solutions_1.id [.int .i64 a0,.ptr c0b c0o,.ptr c1b c1o,.ptr c2b c2o,.ptr c3b c3o,.ptr c4b c4o] H=f (callF PP orc k) k a0 c0b c0o c1b c1o c2b c2o c3b c3o c4b c4o H:=by
 intros a0 c0b c0o c1b c1o c2b c2o c3b c3o c4b c4o H
 rw [callF_at (fn:=Go.Proofs.Try.f83) (c:=body) Go.Proofs.Try.func83 (by kernel_rfl) (Nat.le_of_ble_eq_true (by kernel_rfl)),f_eq]
 kernel_rfl
end impl_solutions_1

namespace impl_firstSolutions
noncomputable def body:Code:=(Go.Proofs.Try.f63).body.getD .skip
noncomputable def f (rec:Rec) (k:Nat) (a0_0:Int) (a0_1:Sl) (a0_2:Sl) (a1:Sl) (a2:Int) (H:Hp):An:=((H ++ [some (Blk.mk false [.int .i64 a2])] ++ [some (Blk.mk false [])] ++ [some (Blk.mk false [.sl 1 Sl.none])]).sto ((H ++ [some (Blk.mk false [.int .i64 a2])] ++ [some (Blk.mk false [])]).length) 0 [.sl 1 (Sl.mk false ((H ++ [some (Blk.mk false [.int .i64 a2])]).length) 0 0)]).bind fun H1=>(rec impl_solutions.id [.agg [.int .i64 a0_0,.sl 1 a0_1,.sl 3 a0_2],.sl 1 a1,.fn impl_firstSolutions_1.id [.ptr ((H ++ [some (Blk.mk false [.int .i64 a2])] ++ [some (Blk.mk false [])]).length) 0,.ptr H.length 0]] H1).bind fun r2=>(ldS 1 r2.2 ((H ++ [some (Blk.mk false [.int .i64 a2])] ++ [some (Blk.mk false [])]).length) 0).bind fun s3=>some (.sl 1 s3,r2.2)
theorem f_eq (rec:Rec) (k:Nat):∀ a0_0 a0_1 a0_2 a1 a2 H,f rec k a0_0 a0_1 a0_2 a1 a2 H=ex PP (orc impl_firstSolutions.id) rec k body (St.of 14 [(0,.agg [.int .i64 a0_0,.sl 1 a0_1,.sl 3 a0_2]),(1,.sl 1 a1),(2,.int .i64 a2)] []) H (K0 PP Go.Proofs.Try.f63):=by
 intros a0_0 a0_1 a0_2 a1 a2 H
 unfold f
 kernel_rfl
theorem call (k:Nat):∀ a0_0 a0_1 a0_2 a1 a2 H,callF PP orc (k + 1) impl_firstSolutions.id [.agg [.int .i64 a0_0,.sl 1 a0_1,.sl 3 a0_2],.sl 1 a1,.int .i64 a2] H=f (callF PP orc k) k a0_0 a0_1 a0_2 a1 a2 H:=by
 intros a0_0 a0_1 a0_2 a1 a2 H
 rw [callF_at (fn:=Go.Proofs.Try.f63) (c:=body) Go.Proofs.Try.func63 (by kernel_rfl) (Nat.le_of_ble_eq_true (by kernel_rfl)),f_eq]
 kernel_rfl
end impl_firstSolutions
namespace impl_firstSolutions_1
noncomputable def body:Code:=(Go.Proofs.Try.f93).body.getD .skip
noncomputable def f (rec:Rec) (k:Nat) (a0:Sl) (c0b:Nat) (c0o:Nat) (c1b:Nat) (c1o:Nat) (H:Hp):An:=(ldS 1 H c0b c0o).bind fun s1=>(rec slices_Clone_int.id [.sl 1 a0] H).bind fun r2=>(r2.1.toS 1).bind fun s3=>bif stableB H r2.2 c0b c0o 1 && true then (r2.2.app 1 s1 1 [.sl 1 s3]).bind fun w4=>(w4.2.sto c0b c0o [.sl 1 w4.1]).bind fun H5=>(ldS 1 H5 c0b c0o).bind fun s6=>(ldI .i64 H5 c1b c1o).bind fun n7=>some (.bool (decide ((s6.len:Int) < n7)),H5) else none
theorem f_eq (rec:Rec) (k:Nat):∀ a0 c0b c0o c1b c1o H,f rec k a0 c0b c0o c1b c1o H=ex PP (orc impl_firstSolutions_1.id) rec k body (St.of 14 [(0,.sl 1 a0),(1,.ptr c0b c0o),(2,.ptr c1b c1o)] []) H (K0 PP Go.Proofs.Try.f93):=by
 intros a0 c0b c0o c1b c1o H
 unfold f
 kernel_rfl
theorem call (k:Nat):∀ a0 c0b c0o c1b c1o H,callF PP orc (k + 1) impl_firstSolutions_1.id [.sl 1 a0,.ptr c0b c0o,.ptr c1b c1o] H=f (callF PP orc k) k a0 c0b c0o c1b c1o H:=by
 intros a0 c0b c0o c1b c1o H
 rw [callF_at (fn:=Go.Proofs.Try.f93) (c:=body) Go.Proofs.Try.func93 (by kernel_rfl) (Nat.le_of_ble_eq_true (by kernel_rfl)),f_eq]
 kernel_rfl
end impl_firstSolutions_1
namespace impl_CountSolutions
noncomputable def body:Code:=(Go.Proofs.Try.f26).body.getD .skip
abbrev o:=orc impl_CountSolutions.id
noncomputable def j1 (rec:Rec) (k:Nat) (x1:Int) (y2_0:Int) (y2_1:Sl) (y2_2:Sl) (H:Hp):An:=(rec impl_firstSolutions.id [.agg [.int .i64 y2_0,.sl 1 y2_1,.sl 3 y2_2],.sl 1 y2_1,.int .i64 x1] H).bind fun r3=>(r3.1.toS 1).bind fun s4=>some (.int .i64 (s4.len:Int),r3.2)
noncomputable def j0 (rec:Rec) (k:Nat) (x1:Int) (x15:Bool) (y2_0:Int) (y2_1:Sl) (y2_2:Sl) (H:Hp):An:=bif x15 then some (.int .i64 (-1),H) else j1 rec k x1 y2_0 y2_1 y2_2 H
noncomputable def f (rec:Rec) (k:Nat) (a0_0:Int) (a0_1:Sl) (a0_2:Sl) (a1:Int) (H:Hp):An:=(rec impl_PuzzleValid.id [.agg [.int .i64 a0_0,.sl 1 a0_1,.sl 3 a0_2]] H).bind fun r1=>r1.1.toB.bind fun b2=>bif !b2 then j0 rec k a1 true a0_0 a0_1 a0_2 r1.2 else bif decide (a1 < 1) then j0 rec k a1 true a0_0 a0_1 a0_2 r1.2 else j0 rec k a1 (decide (a1 > 600)) a0_0 a0_1 a0_2 r1.2
theorem j1_eq (rec:Rec) (k:Nat):∀ x1 y2_0 y2_1 y2_2 H,j1 rec k x1 y2_0 y2_1 y2_2 H=ex PP o rec k (sub body [1,1]) (St.of 22 [(1,.int .i64 x1),(2,.lp 2 0)] [(2,[.int .i64 y2_0,.sl 1 y2_1,.sl 3 y2_2])]) H (kAt PP o rec k body [1,1] [] (K0 PP Go.Proofs.Try.f26)):=by
 intros x1 y2_0 y2_1 y2_2 H
 unfold j1
 kernel_rfl
theorem j0_eq (rec:Rec) (k:Nat):∀ x1 x15 y2_0 y2_1 y2_2 H,j0 rec k x1 x15 y2_0 y2_1 y2_2 H=ex PP o rec k (sub body [1,0,1]) (St.of 22 [(1,.int .i64 x1),(2,.lp 2 0),(15,.bool x15)] [(2,[.int .i64 y2_0,.sl 1 y2_1,.sl 3 y2_2])]) H (kAt PP o rec k body [1,0,1] [] (K0 PP Go.Proofs.Try.f26)):=by
 intros x1 x15 y2_0 y2_1 y2_2 H
 unfold j0
 try simp only [j1_eq rec k,-eq_self]
 kernel_rfl
theorem f_eq (rec:Rec) (k:Nat):∀ a0_0 a0_1 a0_2 a1 H,f rec k a0_0 a0_1 a0_2 a1 H=ex PP o rec k body (St.of 22 [(0,.agg [.int .i64 a0_0,.sl 1 a0_1,.sl 3 a0_2]),(1,.int .i64 a1)] []) H (K0 PP Go.Proofs.Try.f26):=by
 intros a0_0 a0_1 a0_2 a1 H
 unfold f
 try simp only [j0_eq rec k,-eq_self]
 kernel_rfl
theorem call (k:Nat):∀ a0_0 a0_1 a0_2 a1 H,callF PP orc (k + 1) impl_CountSolutions.id [.agg [.int .i64 a0_0,.sl 1 a0_1,.sl 3 a0_2],.int .i64 a1] H=f (callF PP orc k) k a0_0 a0_1 a0_2 a1 H:=by
 intros a0_0 a0_1 a0_2 a1 H
 rw [callF_at (fn:=Go.Proofs.Try.f26) (c:=body) Go.Proofs.Try.func26 (by kernel_rfl) (Nat.le_of_ble_eq_true (by kernel_rfl)),f_eq]
 kernel_rfl
end impl_CountSolutions
namespace impl_SquareNumber
noncomputable def body:Code:=(Go.Proofs.Try.f14).body.getD .skip
abbrev o:=orc impl_SquareNumber.id
noncomputable def j1 (rec:Rec) (k:Nat) (x0:Int) (x3b:Nat) (x3o:Nat) (H:Hp):An:=((H ++ [some (Blk.mk false [.sl 1 Sl.none])]).sto H.length 0 [.sl 1 Sl.none]).bind fun H4=>if 0 ≤ (IntKind.i64.wrap (x0 * x0):Int)∧(IntKind.i64.wrap (x0 * x0):Int) ≤ IntKind.i64.wrap (x0 * x0)∧(IntKind.i64.wrap (x0 * x0):Int) ≤ 1073741824∧8 ≤ 8192∧0 < 1 then (rec impl_solutions.id [.agg [.int .i64 x0,.sl 1 (Sl.mk false H4.length 0 (IntKind.i64.wrap (x0 * x0):Int).toNat),.sl 3 Sl.none],.sl 1 (Sl.mk false H4.length 0 (IntKind.i64.wrap (x0 * x0):Int).toNat),.fn impl_SquareNumber_1.id [.ptr x3b x3o,.ptr H.length 0]] (H4 ++ [some (Blk.mk false (List.replicate (IntKind.i64.wrap (x0 * x0):Int).toNat [.int .i64 0]).flatten)])).bind fun r5=>(ldS 1 r5.2 H.length 0).bind fun s6=>some (.sl 1 s6,r5.2) else none
noncomputable def j0 (rec:Rec) (k:Nat) (x0:Int) (x3b:Nat) (x3o:Nat) (x13:Bool) (H:Hp):An:=bif x13 then some (.sl 1 Sl.none,H) else j1 rec k x0 x3b x3o H
noncomputable def f (rec:Rec) (k:Nat) (a0:Int) (a1:Int) (H:Hp):An:=(rec impl_sizeOk.id [.int .i64 a0] (H ++ [some (Blk.mk false [.int .i64 a1])])).bind fun r1=>r1.1.toB.bind fun b2=>bif !b2 then j0 rec k a0 H.length 0 true r1.2 else (ldI .i64 r1.2 H.length 0).bind fun n3=>j0 rec k a0 H.length 0 (decide (n3 < 0)) r1.2
theorem j1_eq (rec:Rec) (k:Nat):∀ x0 x3b x3o H,j1 rec k x0 x3b x3o H=ex PP o rec k (sub body [1,1]) (St.of 26 [(0,.int .i64 x0),(3,.ptr x3b x3o)] []) H (kAt PP o rec k body [1,1] [] (K0 PP Go.Proofs.Try.f14)):=by
 intros x0 x3b x3o H
 unfold j1
 kernel_rfl
theorem j0_eq (rec:Rec) (k:Nat):∀ x0 x3b x3o x13 H,j0 rec k x0 x3b x3o x13 H=ex PP o rec k (sub body [1,0,1]) (St.of 26 [(0,.int .i64 x0),(3,.ptr x3b x3o),(13,.bool x13)] []) H (kAt PP o rec k body [1,0,1] [] (K0 PP Go.Proofs.Try.f14)):=by
 intros x0 x3b x3o x13 H
 unfold j0
 try simp only [j1_eq rec k,-eq_self]
 kernel_rfl
theorem f_eq (rec:Rec) (k:Nat):∀ a0 a1 H,f rec k a0 a1 H=ex PP o rec k body (St.of 26 [(0,.int .i64 a0),(1,.int .i64 a1)] []) H (K0 PP Go.Proofs.Try.f14):=by
 intros a0 a1 H
 unfold f
 try simp only [j0_eq rec k,-eq_self]
 kernel_rfl
theorem call (k:Nat):∀ a0 a1 H,callF PP orc (k + 1) impl_SquareNumber.id [.int .i64 a0,.int .i64 a1] H=f (callF PP orc k) k a0 a1 H:=by
 intros a0 a1 H
 rw [callF_at (fn:=Go.Proofs.Try.f14) (c:=body) Go.Proofs.Try.func14 (by kernel_rfl) (Nat.le_of_ble_eq_true (by kernel_rfl)),f_eq]
 kernel_rfl
end impl_SquareNumber
namespace impl_SquareNumber_1
noncomputable def body:Code:=(Go.Proofs.Try.f54).body.getD .skip
noncomputable def f (rec:Rec) (k:Nat) (a0:Sl) (c0b:Nat) (c0o:Nat) (c1b:Nat) (c1o:Nat) (H:Hp):An:=(ldI .i64 H c0b c0o).bind fun n1=>bif n1 == 0 then (rec slices_Clone_int.id [.sl 1 a0] H).bind fun r2=>(r2.1.toS 1).bind fun s3=>(r2.2.sto c1b c1o [.sl 1 s3]).bind fun H4=>some (.bool false,H4) else (ldI .i64 H c0b c0o).bind fun n5=>(H.sto c0b c0o [.int .i64 (IntKind.i64.wrap (n5 - 1))]).bind fun H6=>some (.bool true,H6)
theorem f_eq (rec:Rec) (k:Nat):∀ a0 c0b c0o c1b c1o H,f rec k a0 c0b c0o c1b c1o H=ex PP (orc impl_SquareNumber_1.id) rec k body (St.of 11 [(0,.sl 1 a0),(1,.ptr c0b c0o),(2,.ptr c1b c1o)] []) H (K0 PP Go.Proofs.Try.f54):=by
 intros a0 c0b c0o c1b c1o H
 unfold f
 kernel_rfl
theorem call (k:Nat):∀ a0 c0b c0o c1b c1o H,callF PP orc (k + 1) impl_SquareNumber_1.id [.sl 1 a0,.ptr c0b c0o,.ptr c1b c1o] H=f (callF PP orc k) k a0 c0b c0o c1b c1o H:=by
 intros a0 c0b c0o c1b c1o H
 rw [callF_at (fn:=Go.Proofs.Try.f54) (c:=body) Go.Proofs.Try.func54 (by kernel_rfl) (Nat.le_of_ble_eq_true (by kernel_rfl)),f_eq]
 kernel_rfl
end impl_SquareNumber_1

namespace impl_PuzzleSolved
noncomputable def body:Code:=(Go.Proofs.Try.f20).body.getD .skip
noncomputable def f (rec:Rec) (k:Nat) (a0_0:Int) (a0_1:Sl) (a0_2:Sl) (a1:Sl) (H:Hp):An:=(rec impl_PuzzleFits.id [.agg [.int .i64 a0_0,.sl 1 a0_1,.sl 3 a0_2],.sl 1 a1] H).bind fun r1=>r1.1.toB.bind fun b2=>bif b2 then (rec impl_GridFilled.id [.sl 1 a1,.int .i64 a0_0] r1.2).bind fun r3=>(r3.1.toI .i64).bind fun n4=>some (.bool (n4 == (a1.len:Int)),r3.2) else some (.bool false,r1.2)
theorem f_eq (rec:Rec) (k:Nat):∀ a0_0 a0_1 a0_2 a1 H,f rec k a0_0 a0_1 a0_2 a1 H=ex PP (orc impl_PuzzleSolved.id) rec k body (St.of 17 [(0,.agg [.int .i64 a0_0,.sl 1 a0_1,.sl 3 a0_2]),(1,.sl 1 a1)] []) H (K0 PP Go.Proofs.Try.f20):=by
 intros a0_0 a0_1 a0_2 a1 H
 unfold f
 kernel_rfl
theorem call (k:Nat):∀ a0_0 a0_1 a0_2 a1 H,callF PP orc (k + 1) impl_PuzzleSolved.id [.agg [.int .i64 a0_0,.sl 1 a0_1,.sl 3 a0_2],.sl 1 a1] H=f (callF PP orc k) k a0_0 a0_1 a0_2 a1 H:=by
 intros a0_0 a0_1 a0_2 a1 H
 rw [callF_at (fn:=Go.Proofs.Try.f20) (c:=body) Go.Proofs.Try.func20 (by kernel_rfl) (Nat.le_of_ble_eq_true (by kernel_rfl)),f_eq]
 kernel_rfl
end impl_PuzzleSolved
namespace spec_l20Most
noncomputable def body:Code:=(Go.Proofs.Try.f67).body.getD .skip
noncomputable def f (rec:Rec) (k:Nat) (a0b:Nat) (a0o:Nat) (H:Hp):An:=(rec spec_l20Rd_pick.id [.ptr a0b a0o,.int .i64 4] H).bind fun r1=>(r1.1.toI .i64).bind fun n2=>(rec spec_l20Rd_pick.id [.ptr a0b a0o,.int .i64 7] (r1.2 ++ [some (Blk.mk false [.int .i64 (IntKind.i64.wrap (1 + n2)),.int .i64 600,.int .i64 0,.int .i64 601])] ++ [some (Blk.mk false [.int .i64 0,.int .i64 0,.int .i64 0,.int .i64 1,.int .i64 1,.int .i64 2,.int .i64 3])])).bind fun r3=>(r3.1.toI .i64).bind fun n4=>bif decide (0 ≤ (n4:Int)) && decide ((n4:Int) < (Sl.mk false ((r1.2 ++ [some (Blk.mk false [.int .i64 (IntKind.i64.wrap (1 + n2)),.int .i64 600,.int .i64 0,.int .i64 601])]).length) 0 7).len) then (ldI .i64 r3.2 ((Sl.mk false ((r1.2 ++ [some (Blk.mk false [.int .i64 (IntKind.i64.wrap (1 + n2)),.int .i64 600,.int .i64 0,.int .i64 601])]).length) 0 7).blk) ((Sl.mk false ((r1.2 ++ [some (Blk.mk false [.int .i64 (IntKind.i64.wrap (1 + n2)),.int .i64 600,.int .i64 0,.int .i64 601])]).length) 0 7).off + (n4:Int).toNat * 1)).bind fun n5=>bif decide (0 ≤ (n5:Int)) && decide ((n5:Int) < (Sl.mk false r1.2.length 0 4).len) then (ldI .i64 r3.2 ((Sl.mk false r1.2.length 0 4).blk) ((Sl.mk false r1.2.length 0 4).off + (n5:Int).toNat * 1)).bind fun n6=>some (.int .i64 n6,r3.2) else none else none
theorem f_eq (rec:Rec) (k:Nat):∀ a0b a0o H,f rec k a0b a0o H=ex PP (orc spec_l20Most.id) rec k body (St.of 14 [(0,.ptr a0b a0o)] []) H (K0 PP Go.Proofs.Try.f67):=by
 intros a0b a0o H
 unfold f
 kernel_rfl
theorem call (k:Nat):∀ a0b a0o H,callF PP orc (k + 1) spec_l20Most.id [.ptr a0b a0o] H=f (callF PP orc k) k a0b a0o H:=by
 intros a0b a0o H
 rw [callF_at (fn:=Go.Proofs.Try.f67) (c:=body) Go.Proofs.Try.func67 (by kernel_rfl) (Nat.le_of_ble_eq_true (by kernel_rfl)),f_eq]
 kernel_rfl
end spec_l20Most
namespace spec_DrawCountSolutions
noncomputable def body:Code:=(Go.Proofs.Try.f27).body.getD .skip
noncomputable def f (rec:Rec) (k:Nat) (a0:Sl) (H:Hp):An:=(rec spec_l20Open.id [.sl 1 a0] H).bind fun r1=>r1.1.toP.bind fun p2=>(rec spec_l20Puzzle.id [.ptr p2.1 p2.2,.int .i64 12] r1.2).bind fun r3=>bif r3.1.isAgg 3 then ((r3.1.cel 0).toI .i64).bind fun n4=>((r3.1.cel 1).toS 1).bind fun s5=>((r3.1.cel 2).toS 3).bind fun s6=>(rec spec_l20Most.id [.ptr p2.1 p2.2] r3.2).bind fun r7=>(r7.1.toI .i64).bind fun n8=>some (.tup [.agg [.int .i64 n4,.sl 1 s5,.sl 3 s6],.int .i64 n8],r7.2) else none
theorem f_eq (rec:Rec) (k:Nat):∀ a0 H,f rec k a0 H=ex PP (orc spec_DrawCountSolutions.id) rec k body (St.of 13 [(0,.sl 1 a0)] []) H (K0 PP Go.Proofs.Try.f27):=by
 intros a0 H
 unfold f
 kernel_rfl
theorem call (k:Nat):∀ a0 H,callF PP orc (k + 1) spec_DrawCountSolutions.id [.sl 1 a0] H=f (callF PP orc k) k a0 H:=by
 intros a0 H
 rw [callF_at (fn:=Go.Proofs.Try.f27) (c:=body) Go.Proofs.Try.func27 (by kernel_rfl) (Nat.le_of_ble_eq_true (by kernel_rfl)),f_eq]
 kernel_rfl
end spec_DrawCountSolutions
namespace spec_CountSolutions
noncomputable def body:Code:=(Go.Proofs.Try.f28).body.getD .skip
abbrev o:=orc spec_CountSolutions.id
noncomputable def j1 (rec:Rec) (k:Nat) (x1:Int) (y2_0:Int) (y2_1:Sl) (y2_2:Sl) (H:Hp):An:=(rec spec_l5All.id [.agg [.int .i64 y2_0,.sl 1 y2_1,.sl 3 y2_2],.int .i64 x1] H).bind fun r5=>(r5.1.toS 1).bind fun s6=>some (.int .i64 (s6.len:Int),r5.2)
noncomputable def j0 (rec:Rec) (k:Nat) (x1:Int) (x12:Bool) (y2_0:Int) (y2_1:Sl) (y2_2:Sl) (H:Hp):An:=bif x12 then some (.int .i64 (-1),H) else j1 rec k x1 y2_0 y2_1 y2_2 H
noncomputable def f (rec:Rec) (k:Nat) (a0_0:Int) (a0_1:Sl) (a0_2:Sl) (a1:Int) (H:Hp):An:=(rec spec_PuzzleValid.id [.agg [.int .i64 a0_0,.sl 1 a0_1,.sl 3 a0_2]] H).bind fun r1=>r1.1.toB.bind fun b2=>bif !b2 then j0 rec k a1 true a0_0 a0_1 a0_2 r1.2 else (rec spec_l1In.id [.int .i64 a1,.int .i64 1,.int .i64 600] r1.2).bind fun r3=>r3.1.toB.bind fun b4=>j0 rec k a1 (!b4) a0_0 a0_1 a0_2 r3.2
theorem j1_eq (rec:Rec) (k:Nat):∀ x1 y2_0 y2_1 y2_2 H,j1 rec k x1 y2_0 y2_1 y2_2 H=ex PP o rec k (sub body [1,1]) (St.of 17 [(1,.int .i64 x1),(2,.lp 2 0)] [(2,[.int .i64 y2_0,.sl 1 y2_1,.sl 3 y2_2])]) H (kAt PP o rec k body [1,1] [] (K0 PP Go.Proofs.Try.f28)):=by
 intros x1 y2_0 y2_1 y2_2 H
 simp only [j1,-eq_self]
 kernel_rfl
theorem j0_eq (rec:Rec) (k:Nat):∀ x1 x12 y2_0 y2_1 y2_2 H,j0 rec k x1 x12 y2_0 y2_1 y2_2 H=ex PP o rec k (sub body [1,0,1]) (St.of 17 [(1,.int .i64 x1),(2,.lp 2 0),(12,.bool x12)] [(2,[.int .i64 y2_0,.sl 1 y2_1,.sl 3 y2_2])]) H (kAt PP o rec k body [1,0,1] [] (K0 PP Go.Proofs.Try.f28)):=by
 intros x1 x12 y2_0 y2_1 y2_2 H
 simp only [j0,j1,-eq_self]
 kernel_rfl
theorem f_eq (rec:Rec) (k:Nat):∀ a0_0 a0_1 a0_2 a1 H,f rec k a0_0 a0_1 a0_2 a1 H=ex PP o rec k body (St.of 17 [(0,.agg [.int .i64 a0_0,.sl 1 a0_1,.sl 3 a0_2]),(1,.int .i64 a1)] []) H (K0 PP Go.Proofs.Try.f28):=by
 intros a0_0 a0_1 a0_2 a1 H
 simp only [f,j0,j1,-eq_self]
 kernel_rfl
theorem call (k:Nat):∀ a0_0 a0_1 a0_2 a1 H,callF PP orc (k + 1) spec_CountSolutions.id [.agg [.int .i64 a0_0,.sl 1 a0_1,.sl 3 a0_2],.int .i64 a1] H=f (callF PP orc k) k a0_0 a0_1 a0_2 a1 H:=by
 intros a0_0 a0_1 a0_2 a1 H
 rw [callF_at (fn:=Go.Proofs.Try.f28) (c:=body) Go.Proofs.Try.func28 (by kernel_rfl) (Nat.le_of_ble_eq_true (by kernel_rfl)),f_eq]
 kernel_rfl
end spec_CountSolutions
namespace laws_FnCountSolutions
noncomputable def body:Code:=(Go.Proofs.Try.f5).body.getD .skip
abbrev o:=orc laws_FnCountSolutions.id
noncomputable def j2 (rec:Rec) (k:Nat) (x4:Int) (x5:Int) (y3_0:Int) (y3_1:Sl) (y3_2:Sl) (H:Hp):An:=(rec impl_CountSolutions.id [.agg [.int .i64 y3_0,.sl 1 y3_1,.sl 3 y3_2],.int .i64 600] H).bind fun r16=>(r16.1.toI .i64).bind fun n17=>bif x5 == (mn x4 n17) then some (.bool (decide (x5 ≤ 576)),r16.2) else some (.bool false,r16.2)
noncomputable def j3 (rec:Rec) (k:Nat) (L1:Int→Int→Int→Int→Sl→Sl→Hp→An) (x5:Int) (x6:Int) (x7:Int) (y3_0:Int) (y3_1:Sl) (y3_2:Sl) (H:Hp):An:=L1 x5 x6 (IntKind.i64.wrap (x7 + 1)) y3_0 y3_1 y3_2 H
noncomputable def j4 (rec:Rec) (k:Nat) (x5:Int) (x6:Int) (H:Hp):An:=some (.bool (x6 == x5),H)
noncomputable def l1 (rec:Rec) (k:Nat):Nat→Int→Int→Int→Int→Sl→Sl→Hp→An
 | 0,_,_,_,_,_,_,_=>none
 | n + 1,x5,x6,x7,y3_0,y3_1,y3_2,H=>bif decide (x7 < 12) then (rec impl_SquareNumber.id [.int .i64 y3_0,.int .i64 x7] H).bind fun r12=>(r12.1.toS 1).bind fun s13=>(rec impl_PuzzleSolved.id [.agg [.int .i64 y3_0,.sl 1 y3_1,.sl 3 y3_2],.sl 1 s13] r12.2).bind fun r14=>r14.1.toB.bind fun b15=>bif b15 then j3 rec k (l1 rec k n) x5 (IntKind.i64.wrap (x6 + 1)) x7 y3_0 y3_1 y3_2 r14.2 else j3 rec k (l1 rec k n) x5 x6 x7 y3_0 y3_1 y3_2 r14.2 else j4 rec k x5 x6 H
noncomputable def j0 (rec:Rec) (k:Nat) (x4:Int) (x5:Int) (x37:Bool) (y3_0:Int) (y3_1:Sl) (y3_2:Sl) (H:Hp):An:=bif x37 then l1 rec k k x5 0 0 y3_0 y3_1 y3_2 H else j2 rec k x4 x5 y3_0 y3_1 y3_2 H
noncomputable def f (rec:Rec) (k:Nat) (a0:Sl) (H:Hp):An:=bif decide ((a0.len:Int) > 1048576) then some (.bool true,H) else (rec spec_DrawCountSolutions.id [.sl 1 a0] H).bind fun r1=>bif r1.1.isTup 2 then bif (r1.1.nth 0).isAgg 3 then (((r1.1.nth 0).cel 0).toI .i64).bind fun n2=>(((r1.1.nth 0).cel 1).toS 1).bind fun s3=>(((r1.1.nth 0).cel 2).toS 3).bind fun s4=>((r1.1.nth 1).toI .i64).bind fun n5=>(rec impl_CountSolutions.id [.agg [.int .i64 n2,.sl 1 s3,.sl 3 s4],.int .i64 n5] r1.2).bind fun r6=>(r6.1.toI .i64).bind fun n7=>(rec spec_CountSolutions.id [.agg [.int .i64 n2,.sl 1 s3,.sl 3 s4],.int .i64 n5] r6.2).bind fun r8=>(r8.1.toI .i64).bind fun n9=>bif n7 != n9 then some (.bool false,r8.2) else bif decide (n7 < 0) then bif n7 == (-1) then (rec laws_alive.id [] r8.2).bind fun r10=>r10.1.toB.bind fun b11=>some (.bool b11,r10.2) else some (.bool false,r8.2) else bif n5 == 600 then j0 rec k n5 n7 (decide (n2 < 4)) n2 s3 s4 r8.2 else j0 rec k n5 n7 false n2 s3 s4 r8.2 else none else none
theorem j2_eq (rec:Rec) (k:Nat):∀ x4 x5 y3_0 y3_1 y3_2 H,j2 rec k x4 x5 y3_0 y3_1 y3_2 H=ex PP o rec k (sub body [1,1,1,1,1,1,1]) (St.of 63 [(3,.lp 3 0),(4,.int .i64 x4),(5,.int .i64 x5)] [(3,[.int .i64 y3_0,.sl 1 y3_1,.sl 3 y3_2])]) H (kAt PP o rec k body [1,1,1,1,1,1,1] [] (K0 PP Go.Proofs.Try.f5)):=by
 intros x4 x5 y3_0 y3_1 y3_2 H
 simp only [j2,-eq_self]
 kernel_rfl
theorem j3_eq (rec:Rec) (k:Nat) (n1:Nat) (L1:Int→Int→Int→Int→Sl→Sl→Hp→An) (hL1:∀ x5 x6 x7 y3_0 y3_1 y3_2 H,L1 x5 x6 x7 y3_0 y3_1 y3_2 H=iter (o.at (lbody (sub body [1,1,1,1,1,1,0,1,0,1,0,1,0]))) (ex PP o rec k (lbody (sub body [1,1,1,1,1,1,0,1,0,1,0,1,0]))) (kAt PP o rec k body [1,1,1,1,1,1,0,1,0,1,0,1,0] [] (K0 PP Go.Proofs.Try.f5)) n1 (St.of 63 [(3,.lp 3 0),(5,.int .i64 x5),(6,.int .i64 x6),(7,.int .i64 x7)] [(3,[.int .i64 y3_0,.sl 1 y3_1,.sl 3 y3_2])]) H):∀ x5 x6 x7 y3_0 y3_1 y3_2 H,j3 rec k L1 x5 x6 x7 y3_0 y3_1 y3_2 H=ex PP o rec k (sub body [1,1,1,1,1,1,0,1,0,1,0,1,0,0,1,1]) (St.of 63 [(3,.lp 3 0),(5,.int .i64 x5),(6,.int .i64 x6),(7,.int .i64 x7)] [(3,[.int .i64 y3_0,.sl 1 y3_1,.sl 3 y3_2])]) H (kAt PP o rec k body [1,1,1,1,1,1,0,1,0,1,0,1,0,0,1,1] [n1] (K0 PP Go.Proofs.Try.f5)):=by
 intros x5 x6 x7 y3_0 y3_1 y3_2 H
 simp only [j3,hL1,-eq_self]
 kernel_rfl
theorem j4_eq (rec:Rec) (k:Nat):∀ x5 x6 H,j4 rec k x5 x6 H=ex PP o rec k (sub body [1,1,1,1,1,1,0,1,0,1,1]) (St.of 63 [(5,.int .i64 x5),(6,.int .i64 x6)] []) H (kAt PP o rec k body [1,1,1,1,1,1,0,1,0,1,1] [] (K0 PP Go.Proofs.Try.f5)):=by
 intros x5 x6 H
 simp only [j4,-eq_self]
 kernel_rfl
theorem l1_eq (rec:Rec) (k:Nat):∀ n x5 x6 x7 y3_0 y3_1 y3_2 H,l1 rec k n x5 x6 x7 y3_0 y3_1 y3_2 H=iter (o.at (lbody (sub body [1,1,1,1,1,1,0,1,0,1,0,1,0]))) (ex PP o rec k (lbody (sub body [1,1,1,1,1,1,0,1,0,1,0,1,0]))) (kAt PP o rec k body [1,1,1,1,1,1,0,1,0,1,0,1,0] [] (K0 PP Go.Proofs.Try.f5)) n (St.of 63 [(3,.lp 3 0),(5,.int .i64 x5),(6,.int .i64 x6),(7,.int .i64 x7)] [(3,[.int .i64 y3_0,.sl 1 y3_1,.sl 3 y3_2])]) H:=by
 intro n
 induction n with
 | zero=>intros; rfl
 | succ n ih=>
  intros x5 x6 x7 y3_0 y3_1 y3_2 H
  simp only [l1,j3,j4,ih,-eq_self]
  kernel_rfl
theorem j0_eq (rec:Rec) (k:Nat):∀ x4 x5 x37 y3_0 y3_1 y3_2 H,j0 rec k x4 x5 x37 y3_0 y3_1 y3_2 H=ex PP o rec k (sub body [1,1,1,1,1,1,0,1]) (St.of 63 [(3,.lp 3 0),(4,.int .i64 x4),(5,.int .i64 x5),(37,.bool x37)] [(3,[.int .i64 y3_0,.sl 1 y3_1,.sl 3 y3_2])]) H (kAt PP o rec k body [1,1,1,1,1,1,0,1] [] (K0 PP Go.Proofs.Try.f5)):=by
 intros x4 x5 x37 y3_0 y3_1 y3_2 H
 simp only [j0,j2,l1_eq rec k,-eq_self]
 kernel_rfl
theorem f_eq (rec:Rec) (k:Nat):∀ a0 H,f rec k a0 H=ex PP o rec k body (St.of 63 [(0,.sl 1 a0)] []) H (K0 PP Go.Proofs.Try.f5):=by
 intros a0 H
 simp only [f,j0,j2,l1_eq rec k,-eq_self]
 kernel_rfl
theorem call (k:Nat):∀ a0 H,callF PP orc (k + 1) laws_FnCountSolutions.id [.sl 1 a0] H=f (callF PP orc k) k a0 H:=by
 intros a0 H
 rw [callF_at (fn:=Go.Proofs.Try.f5) (c:=body) Go.Proofs.Try.func5 (by kernel_rfl) (Nat.le_of_ble_eq_true (by kernel_rfl)),f_eq]
 kernel_rfl
end laws_FnCountSolutions
end Go.Proofs.Ytjikkamhljbipaa.Rp
