/- Texts for the row of the law FnPuzzleOf, part 8: the plain machine, the program's functions on it, what they come to. No conditions. -/
import Derived.Test.YtjikkamhljbipaaAb
import Derived.Test.YtjikkamhljbipaaOr
set_option linter.unusedVariables false
set_option linter.unusedSimpArgs false
set_option maxRecDepth 100000
namespace Go.Proofs.Ytjikkamhljbipaa.Rp
open Go Go.Proofs.Ytjikkamhljbipaa.Ab
namespace impl_firstSolutions
noncomputable def body:Code:=(Go.Proofs.Try.f63).body.getD .skip
noncomputable def f (rec:Rec) (k:Nat) (a0_0:Int) (a0_1:Sl) (a0_2:Sl) (a1:Sl) (a2:Int) (H:Hp):An:=((H ++ [some (Blk.mk false [.int .i64 a2])] ++ [some (Blk.mk false [])] ++ [some (Blk.mk false [.sl 1 Sl.none])]).sto ((H ++ [some (Blk.mk false [.int .i64 a2])] ++ [some (Blk.mk false [])]).length) 0 [.sl 1 (Sl.mk false ((H ++ [some (Blk.mk false [.int .i64 a2])]).length) 0 0)]).bind fun H1=>(rec impl_solutions.id [.agg [.int .i64 a0_0,.sl 1 a0_1,.sl 3 a0_2],.sl 1 a1,.fn impl_firstSolutions_1.id [.ptr ((H ++ [some (Blk.mk false [.int .i64 a2])] ++ [some (Blk.mk false [])]).length) 0,.ptr H.length 0]] H1).bind fun r2=>(ldS 1 r2.2 ((H ++ [some (Blk.mk false [.int .i64 a2])] ++ [some (Blk.mk false [])]).length) 0).bind fun s3=>some (.sl 1 s3,r2.2)
theorem f_eq (rec:Rec) (k:Nat):∀ a0_0 a0_1 a0_2 a1 a2 H,f rec k a0_0 a0_1 a0_2 a1 a2 H=ex PP (orc impl_firstSolutions.id) rec k body (St.of 14 [(0,.agg [.int .i64 a0_0,.sl 1 a0_1,.sl 3 a0_2]),(1,.sl 1 a1),(2,.int .i64 a2)] []) H (K0 PP Go.Proofs.Try.f63):=by
 intros a0_0 a0_1 a0_2 a1 a2 H
 unfold f
 kernel_rfl
theorem call (k:Nat):∀ a0_0 a0_1 a0_2 a1 a2 H,callF PP orc (k + 1) impl_firstSolutions.id [.agg [.int .i64 a0_0,.sl 1 a0_1,.sl 3 a0_2],.sl 1 a1,.int .i64 a2] H=f (callF PP orc k) k a0_0 a0_1 a0_2 a1 a2 H:=by
 intros a0_0 a0_1 a0_2 a1 a2 H
 rw [callF_at (fn:=Go.Proofs.Try.f63) (c:=body) Go.Proofs.Try.func63 (by kernel_rfl) (Nat.le_of_ble_eq_true (by kernel_rfl)),f_eq]
 kernel_rfl
end impl_firstSolutions
namespace impl_firstSolutions_1
noncomputable def body:Code:=(Go.Proofs.Try.f93).body.getD .skip
noncomputable def f (rec:Rec) (k:Nat) (a0:Sl) (c0b:Nat) (c0o:Nat) (c1b:Nat) (c1o:Nat) (H:Hp):An:=(ldS 1 H c0b c0o).bind fun s1=>(rec slices_Clone_int.id [.sl 1 a0] H).bind fun r2=>(r2.1.toS 1).bind fun s3=>bif stableB H r2.2 c0b c0o 1 && true then (r2.2.app 1 s1 1 [.sl 1 s3]).bind fun w4=>(w4.2.sto c0b c0o [.sl 1 w4.1]).bind fun H5=>(ldS 1 H5 c0b c0o).bind fun s6=>(ldI .i64 H5 c1b c1o).bind fun n7=>some (.bool (decide ((s6.len:Int) < n7)),H5) else none
theorem f_eq (rec:Rec) (k:Nat):∀ a0 c0b c0o c1b c1o H,f rec k a0 c0b c0o c1b c1o H=ex PP (orc impl_firstSolutions_1.id) rec k body (St.of 14 [(0,.sl 1 a0),(1,.ptr c0b c0o),(2,.ptr c1b c1o)] []) H (K0 PP Go.Proofs.Try.f93):=by
 intros a0 c0b c0o c1b c1o H
 unfold f
 kernel_rfl
theorem call (k:Nat):∀ a0 c0b c0o c1b c1o H,callF PP orc (k + 1) impl_firstSolutions_1.id [.sl 1 a0,.ptr c0b c0o,.ptr c1b c1o] H=f (callF PP orc k) k a0 c0b c0o c1b c1o H:=by
 intros a0 c0b c0o c1b c1o H
 rw [callF_at (fn:=Go.Proofs.Try.f93) (c:=body) Go.Proofs.Try.func93 (by kernel_rfl) (Nat.le_of_ble_eq_true (by kernel_rfl)),f_eq]
 kernel_rfl
end impl_firstSolutions_1
namespace impl_CountSolutions
noncomputable def body:Code:=(Go.Proofs.Try.f26).body.getD .skip
abbrev o:=orc impl_CountSolutions.id
noncomputable def j1 (rec:Rec) (k:Nat) (x1:Int) (y2_0:Int) (y2_1:Sl) (y2_2:Sl) (H:Hp):An:=(rec impl_firstSolutions.id [.agg [.int .i64 y2_0,.sl 1 y2_1,.sl 3 y2_2],.sl 1 y2_1,.int .i64 x1] H).bind fun r3=>(r3.1.toS 1).bind fun s4=>some (.int .i64 (s4.len:Int),r3.2)
noncomputable def j0 (rec:Rec) (k:Nat) (x1:Int) (x15:Bool) (y2_0:Int) (y2_1:Sl) (y2_2:Sl) (H:Hp):An:=bif x15 then some (.int .i64 (-1),H) else j1 rec k x1 y2_0 y2_1 y2_2 H
noncomputable def f (rec:Rec) (k:Nat) (a0_0:Int) (a0_1:Sl) (a0_2:Sl) (a1:Int) (H:Hp):An:=(rec impl_PuzzleValid.id [.agg [.int .i64 a0_0,.sl 1 a0_1,.sl 3 a0_2]] H).bind fun r1=>r1.1.toB.bind fun b2=>bif !b2 then j0 rec k a1 true a0_0 a0_1 a0_2 r1.2 else bif decide (a1 < 1) then j0 rec k a1 true a0_0 a0_1 a0_2 r1.2 else j0 rec k a1 (decide (a1 > 600)) a0_0 a0_1 a0_2 r1.2
theorem j1_eq (rec:Rec) (k:Nat):∀ x1 y2_0 y2_1 y2_2 H,j1 rec k x1 y2_0 y2_1 y2_2 H=ex PP o rec k (sub body [1,1]) (St.of 22 [(1,.int .i64 x1),(2,.lp 2 0)] [(2,[.int .i64 y2_0,.sl 1 y2_1,.sl 3 y2_2])]) H (kAt PP o rec k body [1,1] [] (K0 PP Go.Proofs.Try.f26)):=by
 intros x1 y2_0 y2_1 y2_2 H
 unfold j1
 kernel_rfl
theorem j0_eq (rec:Rec) (k:Nat):∀ x1 x15 y2_0 y2_1 y2_2 H,j0 rec k x1 x15 y2_0 y2_1 y2_2 H=ex PP o rec k (sub body [1,0,1]) (St.of 22 [(1,.int .i64 x1),(2,.lp 2 0),(15,.bool x15)] [(2,[.int .i64 y2_0,.sl 1 y2_1,.sl 3 y2_2])]) H (kAt PP o rec k body [1,0,1] [] (K0 PP Go.Proofs.Try.f26)):=by
 intros x1 x15 y2_0 y2_1 y2_2 H
 unfold j0
 try simp only [j1_eq rec k,-eq_self]
 kernel_rfl
theorem f_eq (rec:Rec) (k:Nat):∀ a0_0 a0_1 a0_2 a1 H,f rec k a0_0 a0_1 a0_2 a1 H=ex PP o rec k body (St.of 22 [(0,.agg [.int .i64 a0_0,.sl 1 a0_1,.sl 3 a0_2]),(1,.int .i64 a1)] []) H (K0 PP Go.Proofs.Try.f26):=by
 intros a0_0 a0_1 a0_2 a1 H
 unfold f
 try simp only [j0_eq rec k,-eq_self]
 kernel_rfl
theorem call (k:Nat):∀ a0_0 a0_1 a0_2 a1 H,callF PP orc (k + 1) impl_CountSolutions.id [.agg [.int .i64 a0_0,.sl 1 a0_1,.sl 3 a0_2],.int .i64 a1] H=f (callF PP orc k) k a0_0 a0_1 a0_2 a1 H:=by
 intros a0_0 a0_1 a0_2 a1 H
 rw [callF_at (fn:=Go.Proofs.Try.f26) (c:=body) Go.Proofs.Try.func26 (by kernel_rfl) (Nat.le_of_ble_eq_true (by kernel_rfl)),f_eq]
 kernel_rfl
end impl_CountSolutions
namespace impl_SolveFirst
noncomputable def body:Code:=(Go.Proofs.Try.f23).body.getD .skip
noncomputable def f (rec:Rec) (k:Nat) (a0_0:Int) (a0_1:Sl) (a0_2:Sl) (H:Hp):An:=(rec impl_PuzzleValid.id [.agg [.int .i64 a0_0,.sl 1 a0_1,.sl 3 a0_2]] H).bind fun r1=>r1.1.toB.bind fun b2=>bif !b2 then some (.tup [.sl 1 Sl.none,.bool false],r1.2) else (rec impl_firstSolutions.id [.agg [.int .i64 a0_0,.sl 1 a0_1,.sl 3 a0_2],.sl 1 a0_1,.int .i64 1] r1.2).bind fun r3=>(r3.1.toS 1).bind fun s4=>bif (s4.len:Int) == 0 then some (.tup [.sl 1 Sl.none,.bool false],r3.2) else bif decide (0 ≤ (0:Int)) && decide ((0:Int) < s4.len) then (ldS 1 r3.2 s4.blk (s4.off + (0:Int).toNat * 1)).bind fun s5=>some (.tup [.sl 1 s5,.bool true],r3.2) else none
theorem f_eq (rec:Rec) (k:Nat):∀ a0_0 a0_1 a0_2 H,f rec k a0_0 a0_1 a0_2 H=ex PP (orc impl_SolveFirst.id) rec k body (St.of 18 [(0,.agg [.int .i64 a0_0,.sl 1 a0_1,.sl 3 a0_2])] []) H (K0 PP Go.Proofs.Try.f23):=by
 intros a0_0 a0_1 a0_2 H
 unfold f
 kernel_rfl
theorem call (k:Nat):∀ a0_0 a0_1 a0_2 H,callF PP orc (k + 1) impl_SolveFirst.id [.agg [.int .i64 a0_0,.sl 1 a0_1,.sl 3 a0_2]] H=f (callF PP orc k) k a0_0 a0_1 a0_2 H:=by
 intros a0_0 a0_1 a0_2 H
 rw [callF_at (fn:=Go.Proofs.Try.f23) (c:=body) Go.Proofs.Try.func23 (by kernel_rfl) (Nat.le_of_ble_eq_true (by kernel_rfl)),f_eq]
 kernel_rfl
end impl_SolveFirst
namespace impl_onlyOne
noncomputable def body:Code:=(Go.Proofs.Try.f68).body.getD .skip
noncomputable def f (rec:Rec) (k:Nat) (a0_0:Int) (a0_1:Sl) (a0_2:Sl) (H:Hp):An:=(rec impl_CountSolutions.id [.agg [.int .i64 a0_0,.sl 1 a0_1,.sl 3 a0_2],.int .i64 2] H).bind fun r1=>(r1.1.toI .i64).bind fun n2=>some (.bool (n2 == 1),r1.2)
theorem f_eq (rec:Rec) (k:Nat):∀ a0_0 a0_1 a0_2 H,f rec k a0_0 a0_1 a0_2 H=ex PP (orc impl_onlyOne.id) rec k body (St.of 6 [(0,.agg [.int .i64 a0_0,.sl 1 a0_1,.sl 3 a0_2])] []) H (K0 PP Go.Proofs.Try.f68):=by
 intros a0_0 a0_1 a0_2 H
 unfold f
 kernel_rfl
theorem call (k:Nat):∀ a0_0 a0_1 a0_2 H,callF PP orc (k + 1) impl_onlyOne.id [.agg [.int .i64 a0_0,.sl 1 a0_1,.sl 3 a0_2]] H=f (callF PP orc k) k a0_0 a0_1 a0_2 H:=by
 intros a0_0 a0_1 a0_2 H
 rw [callF_at (fn:=Go.Proofs.Try.f68) (c:=body) Go.Proofs.Try.func68 (by kernel_rfl) (Nat.le_of_ble_eq_true (by kernel_rfl)),f_eq]
 kernel_rfl
end impl_onlyOne
namespace impl_copyPuzzle
noncomputable def body:Code:=(Go.Proofs.Try.f72).body.getD .skip
abbrev o:=orc impl_copyPuzzle.id
noncomputable def j1 (rec:Rec) (k:Nat) (y2_0:Int) (y2_1:Sl) (y2_2:Sl) (y3_0:Int) (y3_1:Sl) (y3_2:Sl) (H:Hp):An:=some (.agg [.int .i64 y3_0,.sl 1 y3_1,.sl 3 y3_2],H)
noncomputable def l0 (rec:Rec) (k:Nat):Nat→Sl→Int→Int→Int→Sl→Sl→Int→Sl→Sl→Hp→An
 | 0,_,_,_,_,_,_,_,_,_,_=>none
 | n + 1,x13,x14,x15,y2_0,y2_1,y2_2,y3_0,y3_1,y3_2,H=>bif decide (x15 < x14) then bif decide (0 ≤ (x15:Int)) && decide ((x15:Int) < x13.len) then (ldI .i64 H x13.blk (x13.off + (x15:Int).toNat * 3)).bind fun n3=>(ldS 1 H x13.blk (x13.off + (x15:Int).toNat * 3 + 1)).bind fun s4=>(ldI .i64 H x13.blk (x13.off + (x15:Int).toNat * 3 + 1 + 1)).bind fun n5=>(rec slices_Clone_int.id [.sl 1 s4] H).bind fun r6=>(r6.1.toS 1).bind fun s7=>(r6.2.app 3 y3_2 1 [.int .i64 n3,.sl 1 s7,.int .i64 n5]).bind fun w8=>(l0 rec k n) x13 x14 (IntKind.i64.wrap (x15 + 1)) y2_0 y2_1 y2_2 y3_0 y3_1 w8.1 w8.2 else none else j1 rec k y2_0 y2_1 y2_2 y3_0 y3_1 y3_2 H
noncomputable def f (rec:Rec) (k:Nat) (a0_0:Int) (a0_1:Sl) (a0_2:Sl) (H:Hp):An:=(rec slices_Clone_int.id [.sl 1 a0_1] H).bind fun r1=>(r1.1.toS 1).bind fun s2=>l0 rec k k a0_2 (a0_2.len:Int) 0 0 Sl.none Sl.none a0_0 s2 Sl.none r1.2
theorem j1_eq (rec:Rec) (k:Nat):∀ y2_0 y2_1 y2_2 y3_0 y3_1 y3_2 H,j1 rec k y2_0 y2_1 y2_2 y3_0 y3_1 y3_2 H=ex PP o rec k (sub body [1,1,1]) (St.of 31 [(2,.lp 2 0),(3,.lp 3 0)] [(2,[.int .i64 y2_0,.sl 1 y2_1,.sl 3 y2_2]),(3,[.int .i64 y3_0,.sl 1 y3_1,.sl 3 y3_2])]) H (kAt PP o rec k body [1,1,1] [] (K0 PP Go.Proofs.Try.f72)):=by
 intros y2_0 y2_1 y2_2 y3_0 y3_1 y3_2 H
 unfold j1
 kernel_rfl
theorem l0_eq (rec:Rec) (k:Nat):∀ n x13 x14 x15 y2_0 y2_1 y2_2 y3_0 y3_1 y3_2 H,l0 rec k n x13 x14 x15 y2_0 y2_1 y2_2 y3_0 y3_1 y3_2 H=iter (o.at (lbody (sub body [1,1,0,1,0]))) (ex PP o rec k (lbody (sub body [1,1,0,1,0]))) (kAt PP o rec k body [1,1,0,1,0] [] (K0 PP Go.Proofs.Try.f72)) n (St.of 31 [(2,.lp 2 0),(3,.lp 3 0),(13,.sl 3 x13),(14,.int .i64 x14),(15,.int .i64 x15)] [(2,[.int .i64 y2_0,.sl 1 y2_1,.sl 3 y2_2]),(3,[.int .i64 y3_0,.sl 1 y3_1,.sl 3 y3_2])]) H:=by
 intro n
 induction n with
 | zero=>intros; rfl
 | succ n ih=>
  intros x13 x14 x15 y2_0 y2_1 y2_2 y3_0 y3_1 y3_2 H
  simp only [l0,j1_eq rec k,ih,-eq_self]
  kernel_rfl
theorem f_eq (rec:Rec) (k:Nat):∀ a0_0 a0_1 a0_2 H,f rec k a0_0 a0_1 a0_2 H=ex PP o rec k body (St.of 31 [(0,.agg [.int .i64 a0_0,.sl 1 a0_1,.sl 3 a0_2])] []) H (K0 PP Go.Proofs.Try.f72):=by
 intros a0_0 a0_1 a0_2 H
 unfold f
 try simp only [l0_eq rec k,-eq_self]
 kernel_rfl
theorem call (k:Nat):∀ a0_0 a0_1 a0_2 H,callF PP orc (k + 1) impl_copyPuzzle.id [.agg [.int .i64 a0_0,.sl 1 a0_1,.sl 3 a0_2]] H=f (callF PP orc k) k a0_0 a0_1 a0_2 H:=by
 intros a0_0 a0_1 a0_2 H
 rw [callF_at (fn:=Go.Proofs.Try.f72) (c:=body) Go.Proofs.Try.func72 (by kernel_rfl) (Nat.le_of_ble_eq_true (by kernel_rfl)),f_eq]
 kernel_rfl
end impl_copyPuzzle
namespace impl_NarrowBy
noncomputable def body:Code:=(Go.Proofs.Try.f108).body.getD .skip
noncomputable def f (rec:Rec) (k:Nat) (a0_0:Int) (a0_1:Sl) (a0_2:Sl) (a1:Sl) (a2:Int) (H:Hp):An:=(rec impl_PuzzleValid.id [.agg [.int .i64 a0_0,.sl 1 a0_1,.sl 3 a0_2]] H).bind fun r1=>r1.1.toB.bind fun b2=>bif !b2 then some (.sl 1 Sl.none,r1.2) else bif a2 == 1 then (rec impl_NarrowSingles.id [.sl 1 a1,.int .i64 a0_0] r1.2).bind fun r3=>(r3.1.toS 1).bind fun s4=>some (.sl 1 s4,r3.2) else bif a2 == 2 then (rec impl_NarrowHidden.id [.sl 1 a1,.int .i64 a0_0] r1.2).bind fun r5=>(r5.1.toS 1).bind fun s6=>some (.sl 1 s6,r5.2) else bif a2 == 3 then (rec impl_NarrowPairs.id [.sl 1 a1,.int .i64 a0_0] r1.2).bind fun r7=>(r7.1.toS 1).bind fun s8=>some (.sl 1 s8,r7.2) else bif a2 == 4 then (rec impl_NarrowRules.id [.agg [.int .i64 a0_0,.sl 1 a0_1,.sl 3 a0_2],.sl 1 a1] r1.2).bind fun r9=>(r9.1.toS 1).bind fun s10=>some (.sl 1 s10,r9.2) else some (.sl 1 Sl.none,r1.2)
theorem f_eq (rec:Rec) (k:Nat):∀ a0_0 a0_1 a0_2 a1 a2 H,f rec k a0_0 a0_1 a0_2 a1 a2 H=ex PP (orc impl_NarrowBy.id) rec k body (St.of 34 [(0,.agg [.int .i64 a0_0,.sl 1 a0_1,.sl 3 a0_2]),(1,.sl 1 a1),(2,.int .i64 a2)] []) H (K0 PP Go.Proofs.Try.f108):=by
 intros a0_0 a0_1 a0_2 a1 a2 H
 unfold f
 kernel_rfl
theorem call (k:Nat):∀ a0_0 a0_1 a0_2 a1 a2 H,callF PP orc (k + 1) impl_NarrowBy.id [.agg [.int .i64 a0_0,.sl 1 a0_1,.sl 3 a0_2],.sl 1 a1,.int .i64 a2] H=f (callF PP orc k) k a0_0 a0_1 a0_2 a1 a2 H:=by
 intros a0_0 a0_1 a0_2 a1 a2 H
 rw [callF_at (fn:=Go.Proofs.Try.f108) (c:=body) Go.Proofs.Try.func108 (by kernel_rfl) (Nat.le_of_ble_eq_true (by kernel_rfl)),f_eq]
 kernel_rfl
end impl_NarrowBy
namespace impl_nextRound
noncomputable def body:Code:=(Go.Proofs.Try.f99).body.getD .skip
abbrev o:=orc impl_nextRound.id
noncomputable def j1 (rec:Rec) (k:Nat) (H:Hp):An:=some (.tup [.sl 1 Sl.none,.int .i64 0],H)
noncomputable def l0 (rec:Rec) (k:Nat):Nat→Sl→Int→Int→Int→Sl→Sl→Hp→An
 | 0,_,_,_,_,_,_,_=>none
 | n + 1,x1,x2,x8,y3_0,y3_1,y3_2,H=>bif decide (x8 ≤ x2) then (rec impl_NarrowBy.id [.agg [.int .i64 y3_0,.sl 1 y3_1,.sl 3 y3_2],.sl 1 x1,.int .i64 x8] H).bind fun r1=>(r1.1.toS 1).bind fun s2=>(rec slices_Equal_int.id [.sl 1 s2,.sl 1 x1] r1.2).bind fun r3=>r3.1.toB.bind fun b4=>bif !b4 then some (.tup [.sl 1 s2,.int .i64 x8],r3.2) else (l0 rec k n) x1 x2 (IntKind.i64.wrap (x8 + 1)) y3_0 y3_1 y3_2 r3.2 else j1 rec k H
noncomputable def f (rec:Rec) (k:Nat) (a0_0:Int) (a0_1:Sl) (a0_2:Sl) (a1:Sl) (a2:Int) (H:Hp):An:=l0 rec k k a1 a2 1 a0_0 a0_1 a0_2 H
theorem j1_eq (rec:Rec) (k:Nat):∀ H,j1 rec k H=ex PP o rec k (sub body [1,1]) (St.of 25 [] []) H (kAt PP o rec k body [1,1] [] (K0 PP Go.Proofs.Try.f99)):=by
 intros H
 unfold j1
 kernel_rfl
theorem l0_eq (rec:Rec) (k:Nat):∀ n x1 x2 x8 y3_0 y3_1 y3_2 H,l0 rec k n x1 x2 x8 y3_0 y3_1 y3_2 H=iter (o.at (lbody (sub body [1,0,1,0]))) (ex PP o rec k (lbody (sub body [1,0,1,0]))) (kAt PP o rec k body [1,0,1,0] [] (K0 PP Go.Proofs.Try.f99)) n (St.of 25 [(1,.sl 1 x1),(2,.int .i64 x2),(3,.lp 3 0),(8,.int .i64 x8)] [(3,[.int .i64 y3_0,.sl 1 y3_1,.sl 3 y3_2])]) H:=by
 intro n
 induction n with
 | zero=>intros; rfl
 | succ n ih=>
  intros x1 x2 x8 y3_0 y3_1 y3_2 H
  simp only [l0,j1_eq rec k,ih,-eq_self]
  kernel_rfl
theorem f_eq (rec:Rec) (k:Nat):∀ a0_0 a0_1 a0_2 a1 a2 H,f rec k a0_0 a0_1 a0_2 a1 a2 H=ex PP o rec k body (St.of 25 [(0,.agg [.int .i64 a0_0,.sl 1 a0_1,.sl 3 a0_2]),(1,.sl 1 a1),(2,.int .i64 a2)] []) H (K0 PP Go.Proofs.Try.f99):=by
 intros a0_0 a0_1 a0_2 a1 a2 H
 unfold f
 try simp only [l0_eq rec k,-eq_self]
 kernel_rfl
theorem call (k:Nat):∀ a0_0 a0_1 a0_2 a1 a2 H,callF PP orc (k + 1) impl_nextRound.id [.agg [.int .i64 a0_0,.sl 1 a0_1,.sl 3 a0_2],.sl 1 a1,.int .i64 a2] H=f (callF PP orc k) k a0_0 a0_1 a0_2 a1 a2 H:=by
 intros a0_0 a0_1 a0_2 a1 a2 H
 rw [callF_at (fn:=Go.Proofs.Try.f99) (c:=body) Go.Proofs.Try.func99 (by kernel_rfl) (Nat.le_of_ble_eq_true (by kernel_rfl)),f_eq]
 kernel_rfl
end impl_nextRound
namespace impl_NarrowAll
noncomputable def body:Code:=(Go.Proofs.Try.f80).body.getD .skip
abbrev o:=orc impl_NarrowAll.id
noncomputable def l2 (rec:Rec) (k:Nat):Nat→Int→Sl→Int→Int→Sl→Sl→Hp→An
 | 0,_,_,_,_,_,_,_=>none
 | n + 1,x2,x8,x9,y3_0,y3_1,y3_2,H=>(rec impl_nextRound.id [.agg [.int .i64 y3_0,.sl 1 y3_1,.sl 3 y3_2],.sl 1 x8,.int .i64 x2] H).bind fun r7=>bif r7.1.isTup 2 then ((r7.1.nth 0).toS 1).bind fun s8=>((r7.1.nth 1).toI .i64).bind fun n9=>bif n9 == 0 then some (.tup [.sl 1 x8,.int .i64 x9],r7.2) else (l2 rec k n) x2 s8 (IntKind.i64.wrap (x9 + 1)) y3_0 y3_1 y3_2 r7.2 else none
noncomputable def j1 (rec:Rec) (k:Nat) (x1:Sl) (x2:Int) (y3_0:Int) (y3_1:Sl) (y3_2:Sl) (H:Hp):An:=(rec slices_Clone_int.id [.sl 1 x1] H).bind fun r5=>(r5.1.toS 1).bind fun s6=>l2 rec k k x2 s6 0 y3_0 y3_1 y3_2 r5.2
noncomputable def j0 (rec:Rec) (k:Nat) (x1:Sl) (x2:Int) (x29:Bool) (y3_0:Int) (y3_1:Sl) (y3_2:Sl) (H:Hp):An:=bif x29 then some (.tup [.sl 1 Sl.none,.int .i64 (-1)],H) else j1 rec k x1 x2 y3_0 y3_1 y3_2 H
noncomputable def f (rec:Rec) (k:Nat) (a0_0:Int) (a0_1:Sl) (a0_2:Sl) (a1:Sl) (a2:Int) (H:Hp):An:=(rec impl_PuzzleValid.id [.agg [.int .i64 a0_0,.sl 1 a0_1,.sl 3 a0_2]] H).bind fun r1=>r1.1.toB.bind fun b2=>bif !b2 then j0 rec k a1 a2 true a0_0 a0_1 a0_2 r1.2 else (rec impl_MasksValid.id [.sl 1 a1,.int .i64 a0_0] r1.2).bind fun r3=>r3.1.toB.bind fun b4=>bif !b4 then j0 rec k a1 a2 true a0_0 a0_1 a0_2 r3.2 else bif decide (a2 < 1) then j0 rec k a1 a2 true a0_0 a0_1 a0_2 r3.2 else j0 rec k a1 a2 (decide (a2 > 4)) a0_0 a0_1 a0_2 r3.2
theorem l2_eq (rec:Rec) (k:Nat):∀ n x2 x8 x9 y3_0 y3_1 y3_2 H,l2 rec k n x2 x8 x9 y3_0 y3_1 y3_2 H=iter (o.at (lbody (sub body [1,1,1,1,0]))) (ex PP o rec k (lbody (sub body [1,1,1,1,0]))) (kAt PP o rec k body [1,1,1,1,0] [] (K0 PP Go.Proofs.Try.f80)) n (St.of 46 [(2,.int .i64 x2),(3,.lp 3 0),(8,.sl 1 x8),(9,.int .i64 x9)] [(3,[.int .i64 y3_0,.sl 1 y3_1,.sl 3 y3_2])]) H:=by
 intro n
 induction n with
 | zero=>intros; rfl
 | succ n ih=>
  intros x2 x8 x9 y3_0 y3_1 y3_2 H
  simp only [l2,ih,-eq_self]
  kernel_rfl
theorem j1_eq (rec:Rec) (k:Nat):∀ x1 x2 y3_0 y3_1 y3_2 H,j1 rec k x1 x2 y3_0 y3_1 y3_2 H=ex PP o rec k (sub body [1,1]) (St.of 46 [(1,.sl 1 x1),(2,.int .i64 x2),(3,.lp 3 0)] [(3,[.int .i64 y3_0,.sl 1 y3_1,.sl 3 y3_2])]) H (kAt PP o rec k body [1,1] [] (K0 PP Go.Proofs.Try.f80)):=by
 intros x1 x2 y3_0 y3_1 y3_2 H
 unfold j1
 try simp only [l2_eq rec k,-eq_self]
 kernel_rfl
theorem j0_eq (rec:Rec) (k:Nat):∀ x1 x2 x29 y3_0 y3_1 y3_2 H,j0 rec k x1 x2 x29 y3_0 y3_1 y3_2 H=ex PP o rec k (sub body [1,0,1]) (St.of 46 [(1,.sl 1 x1),(2,.int .i64 x2),(3,.lp 3 0),(29,.bool x29)] [(3,[.int .i64 y3_0,.sl 1 y3_1,.sl 3 y3_2])]) H (kAt PP o rec k body [1,0,1] [] (K0 PP Go.Proofs.Try.f80)):=by
 intros x1 x2 x29 y3_0 y3_1 y3_2 H
 unfold j0
 try simp only [j1_eq rec k,-eq_self]
 kernel_rfl
theorem f_eq (rec:Rec) (k:Nat):∀ a0_0 a0_1 a0_2 a1 a2 H,f rec k a0_0 a0_1 a0_2 a1 a2 H=ex PP o rec k body (St.of 46 [(0,.agg [.int .i64 a0_0,.sl 1 a0_1,.sl 3 a0_2]),(1,.sl 1 a1),(2,.int .i64 a2)] []) H (K0 PP Go.Proofs.Try.f80):=by
 intros a0_0 a0_1 a0_2 a1 a2 H
 unfold f
 try simp only [j0_eq rec k,-eq_self]
 kernel_rfl
theorem call (k:Nat):∀ a0_0 a0_1 a0_2 a1 a2 H,callF PP orc (k + 1) impl_NarrowAll.id [.agg [.int .i64 a0_0,.sl 1 a0_1,.sl 3 a0_2],.sl 1 a1,.int .i64 a2] H=f (callF PP orc k) k a0_0 a0_1 a0_2 a1 a2 H:=by
 intros a0_0 a0_1 a0_2 a1 a2 H
 rw [callF_at (fn:=Go.Proofs.Try.f80) (c:=body) Go.Proofs.Try.func80 (by kernel_rfl) (Nat.le_of_ble_eq_true (by kernel_rfl)),f_eq]
 kernel_rfl
end impl_NarrowAll
namespace impl_GradePuzzle
noncomputable def body:Code:=(Go.Proofs.Try.f48).body.getD .skip
abbrev o:=orc impl_GradePuzzle.id
noncomputable def l0 (rec:Rec) (k:Nat):Nat→Int→Int→Sl→Sl→Hp→An
 | 0,_,_,_,_,_=>none
 | n + 1,x3,y1_0,y1_1,y1_2,H=>bif decide (x3 ≤ 4) then (rec impl_StartMasks.id [.agg [.int .i64 y1_0,.sl 1 y1_1,.sl 3 y1_2]] H).bind fun r5=>(r5.1.toS 1).bind fun s6=>(rec impl_NarrowAll.id [.agg [.int .i64 y1_0,.sl 1 y1_1,.sl 3 y1_2],.sl 1 s6,.int .i64 x3] r5.2).bind fun r7=>bif r7.1.isTup 2 then ((r7.1.nth 0).toS 1).bind fun s8=>((r7.1.nth 1).toI .i64).bind fun n9=>(rec impl_MasksGrid.id [.sl 1 s8,.int .i64 y1_0] r7.2).bind fun r10=>(r10.1.toS 1).bind fun s11=>(rec impl_GridFilled.id [.sl 1 s11,.int .i64 y1_0] r10.2).bind fun r12=>(r12.1.toI .i64).bind fun n13=>bif n13 == (s8.len:Int) then some (.int .i64 x3,r12.2) else (l0 rec k n) (IntKind.i64.wrap (x3 + 1)) y1_0 y1_1 y1_2 r12.2 else none else some (.int .i64 5,H)
noncomputable def f (rec:Rec) (k:Nat) (a0_0:Int) (a0_1:Sl) (a0_2:Sl) (H:Hp):An:=(rec impl_PuzzleValid.id [.agg [.int .i64 a0_0,.sl 1 a0_1,.sl 3 a0_2]] H).bind fun r1=>r1.1.toB.bind fun b2=>bif !b2 then some (.int .i64 (-1),r1.2) else (rec impl_onlyOne.id [.agg [.int .i64 a0_0,.sl 1 a0_1,.sl 3 a0_2]] r1.2).bind fun r3=>r3.1.toB.bind fun b4=>bif !b4 then some (.int .i64 0,r3.2) else l0 rec k k 1 a0_0 a0_1 a0_2 r3.2
theorem l0_eq (rec:Rec) (k:Nat):∀ n x3 y1_0 y1_1 y1_2 H,l0 rec k n x3 y1_0 y1_1 y1_2 H=iter (o.at (lbody (sub body [1,1,1,0,1,0]))) (ex PP o rec k (lbody (sub body [1,1,1,0,1,0]))) (kAt PP o rec k body [1,1,1,0,1,0] [] (K0 PP Go.Proofs.Try.f48)) n (St.of 35 [(1,.lp 1 0),(3,.int .i64 x3)] [(1,[.int .i64 y1_0,.sl 1 y1_1,.sl 3 y1_2])]) H:=by
 intro n
 induction n with
 | zero=>intros; rfl
 | succ n ih=>
  intros x3 y1_0 y1_1 y1_2 H
  simp only [l0,ih,-eq_self]
  kernel_rfl
theorem f_eq (rec:Rec) (k:Nat):∀ a0_0 a0_1 a0_2 H,f rec k a0_0 a0_1 a0_2 H=ex PP o rec k body (St.of 35 [(0,.agg [.int .i64 a0_0,.sl 1 a0_1,.sl 3 a0_2])] []) H (K0 PP Go.Proofs.Try.f48):=by
 intros a0_0 a0_1 a0_2 H
 unfold f
 try simp only [l0_eq rec k,-eq_self]
 kernel_rfl
theorem call (k:Nat):∀ a0_0 a0_1 a0_2 H,callF PP orc (k + 1) impl_GradePuzzle.id [.agg [.int .i64 a0_0,.sl 1 a0_1,.sl 3 a0_2]] H=f (callF PP orc k) k a0_0 a0_1 a0_2 H:=by
 intros a0_0 a0_1 a0_2 H
 rw [callF_at (fn:=Go.Proofs.Try.f48) (c:=body) Go.Proofs.Try.func48 (by kernel_rfl) (Nat.le_of_ble_eq_true (by kernel_rfl)),f_eq]
 kernel_rfl
end impl_GradePuzzle
namespace laws_sameInts
noncomputable def body:Code:=(Go.Proofs.Try.f15).body.getD .skip
abbrev o:=orc laws_sameInts.id
noncomputable def l0 (rec:Rec) (k:Nat):Nat→Sl→Sl→Int→Hp→An
 | 0,_,_,_,_=>none
 | n + 1,x0,x1,x5,H=>bif decide (x5 < (x0.len:Int)) then bif decide (0 ≤ (x5:Int)) && decide ((x5:Int) < x0.len) then (ldI .i64 H x0.blk (x0.off + (x5:Int).toNat * 1)).bind fun n1=>bif decide (0 ≤ (x5:Int)) && decide ((x5:Int) < x1.len) then (ldI .i64 H x1.blk (x1.off + (x5:Int).toNat * 1)).bind fun n2=>bif n1 != n2 then some (.bool false,H) else (l0 rec k n) x0 x1 (IntKind.i64.wrap (x5 + 1)) H else none else none else some (.bool true,H)
noncomputable def f (rec:Rec) (k:Nat) (a0:Sl) (a1:Sl) (H:Hp):An:=bif (a0.len:Int) != (a1.len:Int) then some (.bool false,H) else l0 rec k k a0 a1 0 H
theorem l0_eq (rec:Rec) (k:Nat):∀ n x0 x1 x5 H,l0 rec k n x0 x1 x5 H=iter (o.at (lbody (sub body [1,1,0,1,0]))) (ex PP o rec k (lbody (sub body [1,1,0,1,0]))) (kAt PP o rec k body [1,1,0,1,0] [] (K0 PP Go.Proofs.Try.f15)) n (St.of 26 [(0,.sl 1 x0),(1,.sl 1 x1),(5,.int .i64 x5)] []) H:=by
 intro n
 induction n with
 | zero=>intros; rfl
 | succ n ih=>
  intros x0 x1 x5 H
  simp only [l0,ih,-eq_self]
  kernel_rfl
theorem f_eq (rec:Rec) (k:Nat):∀ a0 a1 H,f rec k a0 a1 H=ex PP o rec k body (St.of 26 [(0,.sl 1 a0),(1,.sl 1 a1)] []) H (K0 PP Go.Proofs.Try.f15):=by
 intros a0 a1 H
 unfold f
 try simp only [l0_eq rec k,-eq_self]
 kernel_rfl
theorem call (k:Nat):∀ a0 a1 H,callF PP orc (k + 1) laws_sameInts.id [.sl 1 a0,.sl 1 a1] H=f (callF PP orc k) k a0 a1 H:=by
 intros a0 a1 H
 rw [callF_at (fn:=Go.Proofs.Try.f15) (c:=body) Go.Proofs.Try.func15 (by kernel_rfl) (Nat.le_of_ble_eq_true (by kernel_rfl)),f_eq]
 kernel_rfl
end laws_sameInts
namespace laws_samePuzzle
noncomputable def body:Code:=(Go.Proofs.Try.f38).body.getD .skip
abbrev o:=orc laws_samePuzzle.id
abbrev TL2:=Int→Int→Sl→Sl→Int→Sl→Sl→Hp→An
abbrev PhL2 (rec:Rec) (k n2:Nat) (L2:TL2):Prop:=∀ x5 y2_0 y2_1 y2_2 y3_0 y3_1 y3_2 H,L2 x5 y2_0 y2_1 y2_2 y3_0 y3_1 y3_2 H=iter (o.at (lbody (sub body [1,1,0,1,0]))) (ex PP o rec k (lbody (sub body [1,1,0,1,0]))) (kAt PP o rec k body [1,1,0,1,0] [] (K0 PP Go.Proofs.Try.f38)) n2 (St.of 79 [(2,.lp 2 0),(3,.lp 3 0),(5,.int .i64 x5)] [(2,[.int .i64 y2_0,.sl 1 y2_1,.sl 3 y2_2]),(3,[.int .i64 y3_0,.sl 1 y3_1,.sl 3 y3_2])]) H
noncomputable def j4 (rec:Rec) (k:Nat) (L2:TL2) (x5:Int) (y2_0:Int) (y2_1:Sl) (y2_2:Sl) (y3_0:Int) (y3_1:Sl) (y3_2:Sl) (H:Hp):An:=L2 (IntKind.i64.wrap (x5 + 1)) y2_0 y2_1 y2_2 y3_0 y3_1 y3_2 H
noncomputable def j3 (rec:Rec) (k:Nat) (L2:TL2) (x5:Int) (x78:Bool) (y2_0:Int) (y2_1:Sl) (y2_2:Sl) (y3_0:Int) (y3_1:Sl) (y3_2:Sl) (H:Hp):An:=bif x78 then some (.bool false,H) else j4 rec k L2 x5 y2_0 y2_1 y2_2 y3_0 y3_1 y3_2 H
noncomputable def l2 (rec:Rec) (k:Nat):Nat→Int→Int→Sl→Sl→Int→Sl→Sl→Hp→An
 | 0,_,_,_,_,_,_,_,_=>none
 | n + 1,x5,y2_0,y2_1,y2_2,y3_0,y3_1,y3_2,H=>bif decide (x5 < (y2_2.len:Int)) then bif decide (0 ≤ (x5:Int)) && decide ((x5:Int) < y2_2.len) then (ldI .i64 H y2_2.blk (y2_2.off + (x5:Int).toNat * 3 + 0)).bind fun n3=>bif decide (0 ≤ (x5:Int)) && decide ((x5:Int) < y3_2.len) then (ldI .i64 H y3_2.blk (y3_2.off + (x5:Int).toNat * 3 + 0)).bind fun n4=>bif n3 != n4 then j3 rec k (l2 rec k n) x5 true y2_0 y2_1 y2_2 y3_0 y3_1 y3_2 H else bif decide (0 ≤ (x5:Int)) && decide ((x5:Int) < y2_2.len) then (ldI .i64 H y2_2.blk (y2_2.off + (x5:Int).toNat * 3 + 2)).bind fun n5=>bif decide (0 ≤ (x5:Int)) && decide ((x5:Int) < y3_2.len) then (ldI .i64 H y3_2.blk (y3_2.off + (x5:Int).toNat * 3 + 2)).bind fun n6=>bif n5 != n6 then j3 rec k (l2 rec k n) x5 true y2_0 y2_1 y2_2 y3_0 y3_1 y3_2 H else bif decide (0 ≤ (x5:Int)) && decide ((x5:Int) < y2_2.len) then (ldS 1 H y2_2.blk (y2_2.off + (x5:Int).toNat * 3 + 1)).bind fun s7=>bif decide (0 ≤ (x5:Int)) && decide ((x5:Int) < y3_2.len) then (ldS 1 H y3_2.blk (y3_2.off + (x5:Int).toNat * 3 + 1)).bind fun s8=>(rec laws_sameInts.id [.sl 1 s7,.sl 1 s8] H).bind fun r9=>r9.1.toB.bind fun b10=>j3 rec k (l2 rec k n) x5 (!b10) y2_0 y2_1 y2_2 y3_0 y3_1 y3_2 r9.2 else none else none else none else none else none else none else some (.bool true,H)
noncomputable def j1 (rec:Rec) (k:Nat) (y2_0:Int) (y2_1:Sl) (y2_2:Sl) (y3_0:Int) (y3_1:Sl) (y3_2:Sl) (H:Hp):An:=l2 rec k k 0 y2_0 y2_1 y2_2 y3_0 y3_1 y3_2 H
noncomputable def j0 (rec:Rec) (k:Nat) (x27:Bool) (y2_0:Int) (y2_1:Sl) (y2_2:Sl) (y3_0:Int) (y3_1:Sl) (y3_2:Sl) (H:Hp):An:=bif x27 then some (.bool false,H) else j1 rec k y2_0 y2_1 y2_2 y3_0 y3_1 y3_2 H
noncomputable def f (rec:Rec) (k:Nat) (a0_0:Int) (a0_1:Sl) (a0_2:Sl) (a1_0:Int) (a1_1:Sl) (a1_2:Sl) (H:Hp):An:=bif a0_0 != a1_0 then j0 rec k true a0_0 a0_1 a0_2 a1_0 a1_1 a1_2 H else (rec laws_sameInts.id [.sl 1 a0_1,.sl 1 a1_1] H).bind fun r1=>r1.1.toB.bind fun b2=>bif !b2 then j0 rec k true a0_0 a0_1 a0_2 a1_0 a1_1 a1_2 r1.2 else j0 rec k ((a0_2.len:Int) != (a1_2.len:Int)) a0_0 a0_1 a0_2 a1_0 a1_1 a1_2 r1.2
theorem j4_eq (rec:Rec) (k:Nat) (n2:Nat) (L2:TL2) (hL2:PhL2 rec k n2 L2):∀ x5 y2_0 y2_1 y2_2 y3_0 y3_1 y3_2 H,j4 rec k L2 x5 y2_0 y2_1 y2_2 y3_0 y3_1 y3_2 H=ex PP o rec k (sub body [1,1,0,1,0,0,1,1]) (St.of 79 [(2,.lp 2 0),(3,.lp 3 0),(5,.int .i64 x5)] [(2,[.int .i64 y2_0,.sl 1 y2_1,.sl 3 y2_2]),(3,[.int .i64 y3_0,.sl 1 y3_1,.sl 3 y3_2])]) H (kAt PP o rec k body [1,1,0,1,0,0,1,1] [n2] (K0 PP Go.Proofs.Try.f38)):=by
 intros x5 y2_0 y2_1 y2_2 y3_0 y3_1 y3_2 H
 unfold j4
 try simp only [hL2,-eq_self]
 kernel_rfl
theorem j3_eq (rec:Rec) (k:Nat) (n2:Nat) (L2:TL2) (hL2:PhL2 rec k n2 L2):∀ x5 x78 y2_0 y2_1 y2_2 y3_0 y3_1 y3_2 H,j3 rec k L2 x5 x78 y2_0 y2_1 y2_2 y3_0 y3_1 y3_2 H=ex PP o rec k (sub body [1,1,0,1,0,0,1,0,0,1]) (St.of 79 [(2,.lp 2 0),(3,.lp 3 0),(5,.int .i64 x5),(78,.bool x78)] [(2,[.int .i64 y2_0,.sl 1 y2_1,.sl 3 y2_2]),(3,[.int .i64 y3_0,.sl 1 y3_1,.sl 3 y3_2])]) H (kAt PP o rec k body [1,1,0,1,0,0,1,0,0,1] [n2] (K0 PP Go.Proofs.Try.f38)):=by
 intros x5 x78 y2_0 y2_1 y2_2 y3_0 y3_1 y3_2 H
 unfold j3
 try simp only [hL2,j4_eq rec k n2 L2 hL2,-eq_self]
 kernel_rfl
theorem l2_eq (rec:Rec) (k:Nat):∀ n x5 y2_0 y2_1 y2_2 y3_0 y3_1 y3_2 H,l2 rec k n x5 y2_0 y2_1 y2_2 y3_0 y3_1 y3_2 H=iter (o.at (lbody (sub body [1,1,0,1,0]))) (ex PP o rec k (lbody (sub body [1,1,0,1,0]))) (kAt PP o rec k body [1,1,0,1,0] [] (K0 PP Go.Proofs.Try.f38)) n (St.of 79 [(2,.lp 2 0),(3,.lp 3 0),(5,.int .i64 x5)] [(2,[.int .i64 y2_0,.sl 1 y2_1,.sl 3 y2_2]),(3,[.int .i64 y3_0,.sl 1 y3_1,.sl 3 y3_2])]) H:=by
 intro n
 induction n with
 | zero=>intros; rfl
 | succ n ih=>
  intros x5 y2_0 y2_1 y2_2 y3_0 y3_1 y3_2 H
  simp only [l2,j3_eq rec k n (l2 rec k n) (fun x5 y2_0 y2_1 y2_2 y3_0 y3_1 y3_2 H=>ih x5 y2_0 y2_1 y2_2 y3_0 y3_1 y3_2 H),ih,-eq_self]
  kernel_rfl
theorem j1_eq (rec:Rec) (k:Nat):∀ y2_0 y2_1 y2_2 y3_0 y3_1 y3_2 H,j1 rec k y2_0 y2_1 y2_2 y3_0 y3_1 y3_2 H=ex PP o rec k (sub body [1,1]) (St.of 79 [(2,.lp 2 0),(3,.lp 3 0)] [(2,[.int .i64 y2_0,.sl 1 y2_1,.sl 3 y2_2]),(3,[.int .i64 y3_0,.sl 1 y3_1,.sl 3 y3_2])]) H (kAt PP o rec k body [1,1] [] (K0 PP Go.Proofs.Try.f38)):=by
 intros y2_0 y2_1 y2_2 y3_0 y3_1 y3_2 H
 unfold j1
 try simp only [l2_eq rec k,-eq_self]
 kernel_rfl
theorem j0_eq (rec:Rec) (k:Nat):∀ x27 y2_0 y2_1 y2_2 y3_0 y3_1 y3_2 H,j0 rec k x27 y2_0 y2_1 y2_2 y3_0 y3_1 y3_2 H=ex PP o rec k (sub body [1,0,1]) (St.of 79 [(2,.lp 2 0),(3,.lp 3 0),(27,.bool x27)] [(2,[.int .i64 y2_0,.sl 1 y2_1,.sl 3 y2_2]),(3,[.int .i64 y3_0,.sl 1 y3_1,.sl 3 y3_2])]) H (kAt PP o rec k body [1,0,1] [] (K0 PP Go.Proofs.Try.f38)):=by
 intros x27 y2_0 y2_1 y2_2 y3_0 y3_1 y3_2 H
 unfold j0
 try simp only [j1_eq rec k,-eq_self]
 kernel_rfl
theorem f_eq (rec:Rec) (k:Nat):∀ a0_0 a0_1 a0_2 a1_0 a1_1 a1_2 H,f rec k a0_0 a0_1 a0_2 a1_0 a1_1 a1_2 H=ex PP o rec k body (St.of 79 [(0,.agg [.int .i64 a0_0,.sl 1 a0_1,.sl 3 a0_2]),(1,.agg [.int .i64 a1_0,.sl 1 a1_1,.sl 3 a1_2])] []) H (K0 PP Go.Proofs.Try.f38):=by
 intros a0_0 a0_1 a0_2 a1_0 a1_1 a1_2 H
 unfold f
 try simp only [j0_eq rec k,-eq_self]
 kernel_rfl
theorem call (k:Nat):∀ a0_0 a0_1 a0_2 a1_0 a1_1 a1_2 H,callF PP orc (k + 1) laws_samePuzzle.id [.agg [.int .i64 a0_0,.sl 1 a0_1,.sl 3 a0_2],.agg [.int .i64 a1_0,.sl 1 a1_1,.sl 3 a1_2]] H=f (callF PP orc k) k a0_0 a0_1 a0_2 a1_0 a1_1 a1_2 H:=by
 intros a0_0 a0_1 a0_2 a1_0 a1_1 a1_2 H
 rw [callF_at (fn:=Go.Proofs.Try.f38) (c:=body) Go.Proofs.Try.func38 (by kernel_rfl) (Nat.le_of_ble_eq_true (by kernel_rfl)),f_eq]
 kernel_rfl
end laws_samePuzzle
namespace impl_PuzzleOf
noncomputable def body:Code:=(Go.Proofs.Try.f46).body.getD .skip
abbrev o:=orc impl_PuzzleOf.id
noncomputable def j3 (rec:Rec) (k:Nat) (x0:Sl) (x1:Int) (x2:Sl) (y6_0:Int) (y6_1:Sl) (y6_2:Sl) (H:Hp):An:=(rec impl_copyPuzzle.id [.agg [.int .i64 x1,.sl 1 x0,.sl 3 x2]] H).bind fun r8=>bif r8.1.isAgg 3 then ((r8.1.cel 0).toI .i64).bind fun n9=>((r8.1.cel 1).toS 1).bind fun s10=>((r8.1.cel 2).toS 3).bind fun s11=>some (.tup [.agg [.int .i64 n9,.sl 1 s10,.sl 3 s11],.bool true],r8.2) else none
noncomputable def l2 (rec:Rec) (k:Nat):Nat→Sl→Int→Sl→Sl→Int→Int→Int→Sl→Sl→Hp→An
 | 0,_,_,_,_,_,_,_,_,_,_=>none
 | n + 1,x0,x1,x2,x20,x21,x22,y6_0,y6_1,y6_2,H=>bif decide (x22 < x21) then bif decide (0 ≤ (x22:Int)) && decide ((x22:Int) < x20.len) then (ldI .i64 H x20.blk (x20.off + (x22:Int).toNat * 3)).bind fun n3=>(ldS 1 H x20.blk (x20.off + (x22:Int).toNat * 3 + 1)).bind fun s4=>(ldI .i64 H x20.blk (x20.off + (x22:Int).toNat * 3 + 1 + 1)).bind fun n5=>(rec impl_RuleHolds.id [.agg [.int .i64 n3,.sl 1 s4,.int .i64 n5],.sl 1 x0,.int .i64 x1] H).bind fun r6=>r6.1.toB.bind fun b7=>bif !b7 then some (.tup [.agg [.int .i64 0,.sl 1 Sl.none,.sl 3 Sl.none],.bool false],r6.2) else (l2 rec k n) x0 x1 x2 x20 x21 (IntKind.i64.wrap (x22 + 1)) y6_0 y6_1 y6_2 r6.2 else none else j3 rec k x0 x1 x2 y6_0 y6_1 y6_2 H
noncomputable def j1 (rec:Rec) (k:Nat) (x0:Sl) (x1:Int) (x2:Sl) (y6_0:Int) (y6_1:Sl) (y6_2:Sl) (H:Hp):An:=l2 rec k k x0 x1 x2 x2 (x2.len:Int) 0 y6_0 y6_1 y6_2 H
noncomputable def j0 (rec:Rec) (k:Nat) (x0:Sl) (x1:Int) (x2:Sl) (x18:Bool) (y6_0:Int) (y6_1:Sl) (y6_2:Sl) (H:Hp):An:=bif x18 then some (.tup [.agg [.int .i64 0,.sl 1 Sl.none,.sl 3 Sl.none],.bool false],H) else j1 rec k x0 x1 x2 y6_0 y6_1 y6_2 H
noncomputable def f (rec:Rec) (k:Nat) (a0:Sl) (a1:Int) (a2:Sl) (H:Hp):An:=(rec impl_SquareSolved.id [.sl 1 a0,.int .i64 a1] H).bind fun r1=>r1.1.toB.bind fun b2=>bif !b2 then j0 rec k a0 a1 a2 true 0 Sl.none Sl.none r1.2 else j0 rec k a0 a1 a2 (decide ((a2.len:Int) > 20)) 0 Sl.none Sl.none r1.2
theorem j3_eq (rec:Rec) (k:Nat):∀ x0 x1 x2 y6_0 y6_1 y6_2 H,j3 rec k x0 x1 x2 y6_0 y6_1 y6_2 H=ex PP o rec k (sub body [1,1,1]) (St.of 38 [(0,.sl 1 x0),(1,.int .i64 x1),(2,.sl 3 x2),(6,.lp 6 0)] [(6,[.int .i64 y6_0,.sl 1 y6_1,.sl 3 y6_2])]) H (kAt PP o rec k body [1,1,1] [] (K0 PP Go.Proofs.Try.f46)):=by
 intros x0 x1 x2 y6_0 y6_1 y6_2 H
 unfold j3
 kernel_rfl
theorem l2_eq (rec:Rec) (k:Nat):∀ n x0 x1 x2 x20 x21 x22 y6_0 y6_1 y6_2 H,l2 rec k n x0 x1 x2 x20 x21 x22 y6_0 y6_1 y6_2 H=iter (o.at (lbody (sub body [1,1,0,1,0]))) (ex PP o rec k (lbody (sub body [1,1,0,1,0]))) (kAt PP o rec k body [1,1,0,1,0] [] (K0 PP Go.Proofs.Try.f46)) n (St.of 38 [(0,.sl 1 x0),(1,.int .i64 x1),(2,.sl 3 x2),(6,.lp 6 0),(20,.sl 3 x20),(21,.int .i64 x21),(22,.int .i64 x22)] [(6,[.int .i64 y6_0,.sl 1 y6_1,.sl 3 y6_2])]) H:=by
 intro n
 induction n with
 | zero=>intros; rfl
 | succ n ih=>
  intros x0 x1 x2 x20 x21 x22 y6_0 y6_1 y6_2 H
  simp only [l2,j3_eq rec k,ih,-eq_self]
  kernel_rfl
theorem j1_eq (rec:Rec) (k:Nat):∀ x0 x1 x2 y6_0 y6_1 y6_2 H,j1 rec k x0 x1 x2 y6_0 y6_1 y6_2 H=ex PP o rec k (sub body [1,1]) (St.of 38 [(0,.sl 1 x0),(1,.int .i64 x1),(2,.sl 3 x2),(6,.lp 6 0)] [(6,[.int .i64 y6_0,.sl 1 y6_1,.sl 3 y6_2])]) H (kAt PP o rec k body [1,1] [] (K0 PP Go.Proofs.Try.f46)):=by
 intros x0 x1 x2 y6_0 y6_1 y6_2 H
 unfold j1
 try simp only [l2_eq rec k,-eq_self]
 kernel_rfl
theorem j0_eq (rec:Rec) (k:Nat):∀ x0 x1 x2 x18 y6_0 y6_1 y6_2 H,j0 rec k x0 x1 x2 x18 y6_0 y6_1 y6_2 H=ex PP o rec k (sub body [1,0,1]) (St.of 38 [(0,.sl 1 x0),(1,.int .i64 x1),(2,.sl 3 x2),(6,.lp 6 0),(18,.bool x18)] [(6,[.int .i64 y6_0,.sl 1 y6_1,.sl 3 y6_2])]) H (kAt PP o rec k body [1,0,1] [] (K0 PP Go.Proofs.Try.f46)):=by
 intros x0 x1 x2 x18 y6_0 y6_1 y6_2 H
 unfold j0
 try simp only [j1_eq rec k,-eq_self]
 kernel_rfl
theorem f_eq (rec:Rec) (k:Nat):∀ a0 a1 a2 H,f rec k a0 a1 a2 H=ex PP o rec k body (St.of 38 [(0,.sl 1 a0),(1,.int .i64 a1),(2,.sl 3 a2)] []) H (K0 PP Go.Proofs.Try.f46):=by
 intros a0 a1 a2 H
 unfold f
 try simp only [j0_eq rec k,-eq_self]
 kernel_rfl
theorem call (k:Nat):∀ a0 a1 a2 H,callF PP orc (k + 1) impl_PuzzleOf.id [.sl 1 a0,.int .i64 a1,.sl 3 a2] H=f (callF PP orc k) k a0 a1 a2 H:=by
 intros a0 a1 a2 H
 rw [callF_at (fn:=Go.Proofs.Try.f46) (c:=body) Go.Proofs.Try.func46 (by kernel_rfl) (Nat.le_of_ble_eq_true (by kernel_rfl)),f_eq]
 kernel_rfl
end impl_PuzzleOf
namespace spec_PuzzleOf
noncomputable def body:Code:=(Go.Proofs.Try.f47).body.getD .skip
noncomputable def f (rec:Rec) (k:Nat) (a0:Sl) (a1:Int) (a2:Sl) (H:Hp):An:=(rec spec_l1OwnRuleList.id [.sl 3 a2] H).bind fun r1=>(r1.1.toS 3).bind fun s2=>(r1.2.read 1 a0).bind fun c4=>(r1.2.appl 1 [] 0 a0.len c4).bind fun w3=>bif true && c4.all AV.cell then (w3.2.read 3 s2).bind fun c6=>(w3.2.appl 3 [] 0 s2.len c6).bind fun w5=>bif true && c6.all AV.cell then (rec spec_PuzzleSolved.id [.agg [.int .i64 a1,.sl 1 w3.1,.sl 3 w5.1],.sl 1 a0] w5.2).bind fun r7=>r7.1.toB.bind fun b8=>bif !b8 then some (.tup [.agg [.int .i64 0,.sl 1 Sl.none,.sl 3 Sl.none],.bool false],r7.2) else some (.tup [.agg [.int .i64 a1,.sl 1 w3.1,.sl 3 w5.1],.bool true],r7.2) else none else none
theorem f_eq (rec:Rec) (k:Nat):∀ a0 a1 a2 H,f rec k a0 a1 a2 H=ex PP (orc spec_PuzzleOf.id) rec k body (St.of 25 [(0,.sl 1 a0),(1,.int .i64 a1),(2,.sl 3 a2)] []) H (K0 PP Go.Proofs.Try.f47):=by
 intros a0 a1 a2 H
 unfold f
 kernel_rfl
theorem call (k:Nat):∀ a0 a1 a2 H,callF PP orc (k + 1) spec_PuzzleOf.id [.sl 1 a0,.int .i64 a1,.sl 3 a2] H=f (callF PP orc k) k a0 a1 a2 H:=by
 intros a0 a1 a2 H
 rw [callF_at (fn:=Go.Proofs.Try.f47) (c:=body) Go.Proofs.Try.func47 (by kernel_rfl) (Nat.le_of_ble_eq_true (by kernel_rfl)),f_eq]
 kernel_rfl
end spec_PuzzleOf
namespace spec_DrawPuzzleOf
noncomputable def body:Code:=(Go.Proofs.Try.f45).body.getD .skip
abbrev o:=orc spec_DrawPuzzleOf.id
noncomputable def j1 (rec:Rec) (k:Nat) (y6_0:Int) (y6_1:Sl) (y6_2:Sl) (H:Hp):An:=some (.tup [.sl 1 y6_1,.int .i64 y6_0,.sl 3 y6_2],H)
noncomputable def j0 (rec:Rec) (k:Nat) (x7:Sl) (x23:Bool) (y6_0:Int) (y6_1:Sl) (y6_2:Sl) (H:Hp):An:=bif x23 then some (.tup [.sl 1 x7,.int .i64 y6_0,.sl 3 y6_2],H) else j1 rec k y6_0 y6_1 y6_2 H
noncomputable def f (rec:Rec) (k:Nat) (a0:Sl) (H:Hp):An:=(rec spec_l20Open.id [.sl 1 a0] H).bind fun r1=>r1.1.toP.bind fun p2=>(rec spec_l20Puzzle.id [.ptr p2.1 p2.2,.int .i64 9] r1.2).bind fun r3=>bif r3.1.isAgg 3 then ((r3.1.cel 0).toI .i64).bind fun n4=>((r3.1.cel 1).toS 1).bind fun s5=>((r3.1.cel 2).toS 3).bind fun s6=>(rec spec_SolveFirst.id [.agg [.int .i64 n4,.sl 1 s5,.sl 3 s6]] r3.2).bind fun r7=>bif r7.1.isTup 2 then ((r7.1.nth 0).toS 1).bind fun s8=>(r7.1.nth 1).toB.bind fun b9=>bif b9 then (rec spec_l20Rd_pick.id [.ptr p2.1 p2.2,.int .i64 4] r7.2).bind fun r10=>(r10.1.toI .i64).bind fun n11=>j0 rec k s8 (decide (n11 > 0)) n4 s5 s6 r10.2 else j0 rec k s8 false n4 s5 s6 r7.2 else none else none
theorem j1_eq (rec:Rec) (k:Nat):∀ y6_0 y6_1 y6_2 H,j1 rec k y6_0 y6_1 y6_2 H=ex PP o rec k (sub body [1,1,1,1]) (St.of 35 [(6,.lp 6 0)] [(6,[.int .i64 y6_0,.sl 1 y6_1,.sl 3 y6_2])]) H (kAt PP o rec k body [1,1,1,1] [] (K0 PP Go.Proofs.Try.f45)):=by
 intros y6_0 y6_1 y6_2 H
 simp only [j1,-eq_self]
 kernel_rfl
theorem j0_eq (rec:Rec) (k:Nat):∀ x7 x23 y6_0 y6_1 y6_2 H,j0 rec k x7 x23 y6_0 y6_1 y6_2 H=ex PP o rec k (sub body [1,1,1,0,1,1]) (St.of 35 [(6,.lp 6 0),(7,.sl 1 x7),(23,.bool x23)] [(6,[.int .i64 y6_0,.sl 1 y6_1,.sl 3 y6_2])]) H (kAt PP o rec k body [1,1,1,0,1,1] [] (K0 PP Go.Proofs.Try.f45)):=by
 intros x7 x23 y6_0 y6_1 y6_2 H
 simp only [j0,j1,-eq_self]
 kernel_rfl
theorem f_eq (rec:Rec) (k:Nat):∀ a0 H,f rec k a0 H=ex PP o rec k body (St.of 35 [(0,.sl 1 a0)] []) H (K0 PP Go.Proofs.Try.f45):=by
 intros a0 H
 simp only [f,j0,j1,-eq_self]
 kernel_rfl
theorem call (k:Nat):∀ a0 H,callF PP orc (k + 1) spec_DrawPuzzleOf.id [.sl 1 a0] H=f (callF PP orc k) k a0 H:=by
 intros a0 H
 rw [callF_at (fn:=Go.Proofs.Try.f45) (c:=body) Go.Proofs.Try.func45 (by kernel_rfl) (Nat.le_of_ble_eq_true (by kernel_rfl)),f_eq]
 kernel_rfl
end spec_DrawPuzzleOf
namespace laws_FnPuzzleOf
noncomputable def body:Code:=(Go.Proofs.Try.f12).body.getD .skip
abbrev o:=orc laws_FnPuzzleOf.id
noncomputable def j1 (rec:Rec) (k:Nat) (x3:Sl) (x7:Bool) (y6_0:Int) (y6_1:Sl) (y6_2:Sl) (H:Hp):An:=bif !x7 then bif y6_0 == 0 then (rec laws_alive.id [] H).bind fun r17=>r17.1.toB.bind fun b18=>some (.bool b18,r17.2) else some (.bool false,H) else (rec impl_SolveFirst.id [.agg [.int .i64 y6_0,.sl 1 y6_1,.sl 3 y6_2]] H).bind fun r19=>bif r19.1.isTup 2 then ((r19.1.nth 0).toS 1).bind fun s20=>(r19.1.nth 1).toB.bind fun b21=>(rec laws_sameInts.id [.sl 1 s20,.sl 1 x3] r19.2).bind fun r22=>r22.1.toB.bind fun b23=>bif b23 then (rec impl_CountSolutions.id [.agg [.int .i64 y6_0,.sl 1 y6_1,.sl 3 y6_2],.int .i64 2] r22.2).bind fun r24=>(r24.1.toI .i64).bind fun n25=>bif n25 == 1 then (rec impl_GradePuzzle.id [.agg [.int .i64 y6_0,.sl 1 y6_1,.sl 3 y6_2]] r24.2).bind fun r26=>(r26.1.toI .i64).bind fun n27=>some (.bool (n27 == 1),r26.2) else some (.bool false,r24.2) else some (.bool false,r22.2) else none
noncomputable def j0 (rec:Rec) (k:Nat) (x3:Sl) (x7:Bool) (x43:Bool) (y6_0:Int) (y6_1:Sl) (y6_2:Sl) (H:Hp):An:=bif x43 then some (.bool false,H) else j1 rec k x3 x7 y6_0 y6_1 y6_2 H
noncomputable def f (rec:Rec) (k:Nat) (a0:Sl) (H:Hp):An:=bif decide ((a0.len:Int) > 1048576) then some (.bool true,H) else (rec spec_DrawPuzzleOf.id [.sl 1 a0] H).bind fun r1=>bif r1.1.isTup 3 then ((r1.1.nth 0).toS 1).bind fun s2=>((r1.1.nth 1).toI .i64).bind fun n3=>((r1.1.nth 2).toS 3).bind fun s4=>(rec impl_PuzzleOf.id [.sl 1 s2,.int .i64 n3,.sl 3 s4] r1.2).bind fun r5=>bif r5.1.isTup 2 then bif (r5.1.nth 0).isAgg 3 then (((r5.1.nth 0).cel 0).toI .i64).bind fun n6=>(((r5.1.nth 0).cel 1).toS 1).bind fun s7=>(((r5.1.nth 0).cel 2).toS 3).bind fun s8=>(r5.1.nth 1).toB.bind fun b9=>(rec spec_PuzzleOf.id [.sl 1 s2,.int .i64 n3,.sl 3 s4] r5.2).bind fun r10=>bif r10.1.isTup 2 then bif (r10.1.nth 0).isAgg 3 then (((r10.1.nth 0).cel 0).toI .i64).bind fun n11=>(((r10.1.nth 0).cel 1).toS 1).bind fun s12=>(((r10.1.nth 0).cel 2).toS 3).bind fun s13=>(r10.1.nth 1).toB.bind fun b14=>(rec laws_samePuzzle.id [.agg [.int .i64 n6,.sl 1 s7,.sl 3 s8],.agg [.int .i64 n11,.sl 1 s12,.sl 3 s13]] r10.2).bind fun r15=>r15.1.toB.bind fun b16=>bif !b16 then j0 rec k s2 b9 true n6 s7 s8 r15.2 else j0 rec k s2 b9 (!(b9 == b14)) n6 s7 s8 r15.2 else none else none else none else none else none
theorem j1_eq (rec:Rec) (k:Nat):∀ x3 x7 y6_0 y6_1 y6_2 H,j1 rec k x3 x7 y6_0 y6_1 y6_2 H=ex PP o rec k (sub body [1,1,1,1,1,1]) (St.of 70 [(3,.sl 1 x3),(6,.lp 6 0),(7,.bool x7)] [(6,[.int .i64 y6_0,.sl 1 y6_1,.sl 3 y6_2])]) H (kAt PP o rec k body [1,1,1,1,1,1] [] (K0 PP Go.Proofs.Try.f12)):=by
 intros x3 x7 y6_0 y6_1 y6_2 H
 simp only [j1,-eq_self]
 kernel_rfl
theorem j0_eq (rec:Rec) (k:Nat):∀ x3 x7 x43 y6_0 y6_1 y6_2 H,j0 rec k x3 x7 x43 y6_0 y6_1 y6_2 H=ex PP o rec k (sub body [1,1,1,1,1,0,1]) (St.of 70 [(3,.sl 1 x3),(6,.lp 6 0),(7,.bool x7),(43,.bool x43)] [(6,[.int .i64 y6_0,.sl 1 y6_1,.sl 3 y6_2])]) H (kAt PP o rec k body [1,1,1,1,1,0,1] [] (K0 PP Go.Proofs.Try.f12)):=by
 intros x3 x7 x43 y6_0 y6_1 y6_2 H
 simp only [j0,j1,-eq_self]
 kernel_rfl
theorem f_eq (rec:Rec) (k:Nat):∀ a0 H,f rec k a0 H=ex PP o rec k body (St.of 70 [(0,.sl 1 a0)] []) H (K0 PP Go.Proofs.Try.f12):=by
 intros a0 H
 simp only [f,j0,j1,-eq_self]
 kernel_rfl
theorem call (k:Nat):∀ a0 H,callF PP orc (k + 1) laws_FnPuzzleOf.id [.sl 1 a0] H=f (callF PP orc k) k a0 H:=by
 intros a0 H
 rw [callF_at (fn:=Go.Proofs.Try.f12) (c:=body) Go.Proofs.Try.func12 (by kernel_rfl) (Nat.le_of_ble_eq_true (by kernel_rfl)),f_eq]
 kernel_rfl
end laws_FnPuzzleOf
end Go.Proofs.Ytjikkamhljbipaa.Rp
