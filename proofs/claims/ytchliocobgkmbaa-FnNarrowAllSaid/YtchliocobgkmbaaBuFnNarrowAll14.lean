/- Texts for the row of the law FnNarrowAll, part 14: the plain machine, the program's functions on it, what they come to. No conditions. -/
import Derived.Test.YtchliocobgkmbaaAb
import Derived.Test.YtchliocobgkmbaaOr
set_option linter.unusedVariables false
set_option linter.unusedSimpArgs false
set_option maxRecDepth 100000
namespace Go.Proofs.Ytchliocobgkmbaa.Rp
open Go Go.Proofs.Ytchliocobgkmbaa.Ab
namespace impl_firstSolutions
noncomputable def body:Code:=(Go.Proofs.Try.f61).body.getD .skip
noncomputable def f (rec:Rec) (k:Nat) (a0_0:Int) (a0_1:Sl) (a0_2:Sl) (a1:Sl) (a2:Int) (H:Hp):An:=((H ++ [some (Blk.mk false [.int .i64 a2])] ++ [some (Blk.mk false [])] ++ [some (Blk.mk false [.sl 1 Sl.none])]).sto ((H ++ [some (Blk.mk false [.int .i64 a2])] ++ [some (Blk.mk false [])]).length) 0 [.sl 1 (Sl.mk false ((H ++ [some (Blk.mk false [.int .i64 a2])]).length) 0 0)]).bind fun H1=>(rec impl_solutions.id [.agg [.int .i64 a0_0,.sl 1 a0_1,.sl 3 a0_2],.sl 1 a1,.fn impl_firstSolutions_1.id [.ptr ((H ++ [some (Blk.mk false [.int .i64 a2])] ++ [some (Blk.mk false [])]).length) 0,.ptr H.length 0]] H1).bind fun r2=>(ldS 1 r2.2 ((H ++ [some (Blk.mk false [.int .i64 a2])] ++ [some (Blk.mk false [])]).length) 0).bind fun s3=>some (.sl 1 s3,r2.2)
theorem f_eq (rec:Rec) (k:Nat):∀ a0_0 a0_1 a0_2 a1 a2 H,f rec k a0_0 a0_1 a0_2 a1 a2 H=ex PP (orc impl_firstSolutions.id) rec k body (St.of 14 [(0,.agg [.int .i64 a0_0,.sl 1 a0_1,.sl 3 a0_2]),(1,.sl 1 a1),(2,.int .i64 a2)] []) H (K0 PP Go.Proofs.Try.f61):=by
 intros a0_0 a0_1 a0_2 a1 a2 H
 unfold f
 kernel_rfl
theorem call (k:Nat):∀ a0_0 a0_1 a0_2 a1 a2 H,callF PP orc (k + 1) impl_firstSolutions.id [.agg [.int .i64 a0_0,.sl 1 a0_1,.sl 3 a0_2],.sl 1 a1,.int .i64 a2] H=f (callF PP orc k) k a0_0 a0_1 a0_2 a1 a2 H:=by
 intros a0_0 a0_1 a0_2 a1 a2 H
 rw [callF_at (fn:=Go.Proofs.Try.f61) (c:=body) Go.Proofs.Try.func61 (by kernel_rfl) (Nat.le_of_ble_eq_true (by kernel_rfl)),f_eq]
 kernel_rfl
end impl_firstSolutions
namespace impl_firstSolutions_1
noncomputable def body:Code:=(Go.Proofs.Try.f97).body.getD .skip
noncomputable def f (rec:Rec) (k:Nat) (a0:Sl) (c0b:Nat) (c0o:Nat) (c1b:Nat) (c1o:Nat) (H:Hp):An:=(ldS 1 H c0b c0o).bind fun s1=>(rec slices_Clone_int.id [.sl 1 a0] H).bind fun r2=>(r2.1.toS 1).bind fun s3=>bif stableB H r2.2 c0b c0o 1 && true then (r2.2.app 1 s1 1 [.sl 1 s3]).bind fun w4=>(w4.2.sto c0b c0o [.sl 1 w4.1]).bind fun H5=>(ldS 1 H5 c0b c0o).bind fun s6=>(ldI .i64 H5 c1b c1o).bind fun n7=>some (.bool (decide ((s6.len:Int) < n7)),H5) else none
theorem f_eq (rec:Rec) (k:Nat):∀ a0 c0b c0o c1b c1o H,f rec k a0 c0b c0o c1b c1o H=ex PP (orc impl_firstSolutions_1.id) rec k body (St.of 14 [(0,.sl 1 a0),(1,.ptr c0b c0o),(2,.ptr c1b c1o)] []) H (K0 PP Go.Proofs.Try.f97):=by
 intros a0 c0b c0o c1b c1o H
 unfold f
 kernel_rfl
theorem call (k:Nat):∀ a0 c0b c0o c1b c1o H,callF PP orc (k + 1) impl_firstSolutions_1.id [.sl 1 a0,.ptr c0b c0o,.ptr c1b c1o] H=f (callF PP orc k) k a0 c0b c0o c1b c1o H:=by
 intros a0 c0b c0o c1b c1o H
 rw [callF_at (fn:=Go.Proofs.Try.f97) (c:=body) Go.Proofs.Try.func97 (by kernel_rfl) (Nat.le_of_ble_eq_true (by kernel_rfl)),f_eq]
 kernel_rfl
end impl_firstSolutions_1
namespace impl_SolveFirst
noncomputable def body:Code:=(Go.Proofs.Try.f19).body.getD .skip
noncomputable def f (rec:Rec) (k:Nat) (a0_0:Int) (a0_1:Sl) (a0_2:Sl) (H:Hp):An:=(rec impl_PuzzleValid.id [.agg [.int .i64 a0_0,.sl 1 a0_1,.sl 3 a0_2]] H).bind fun r1=>r1.1.toB.bind fun b2=>bif !b2 then some (.tup [.sl 1 Sl.none,.bool false],r1.2) else (rec impl_firstSolutions.id [.agg [.int .i64 a0_0,.sl 1 a0_1,.sl 3 a0_2],.sl 1 a0_1,.int .i64 1] r1.2).bind fun r3=>(r3.1.toS 1).bind fun s4=>bif (s4.len:Int) == 0 then some (.tup [.sl 1 Sl.none,.bool false],r3.2) else bif decide (0 ≤ (0:Int)) && decide ((0:Int) < s4.len) then (ldS 1 r3.2 s4.blk (s4.off + (0:Int).toNat * 1)).bind fun s5=>some (.tup [.sl 1 s5,.bool true],r3.2) else none
theorem f_eq (rec:Rec) (k:Nat):∀ a0_0 a0_1 a0_2 H,f rec k a0_0 a0_1 a0_2 H=ex PP (orc impl_SolveFirst.id) rec k body (St.of 18 [(0,.agg [.int .i64 a0_0,.sl 1 a0_1,.sl 3 a0_2])] []) H (K0 PP Go.Proofs.Try.f19):=by
 intros a0_0 a0_1 a0_2 H
 unfold f
 kernel_rfl
theorem call (k:Nat):∀ a0_0 a0_1 a0_2 H,callF PP orc (k + 1) impl_SolveFirst.id [.agg [.int .i64 a0_0,.sl 1 a0_1,.sl 3 a0_2]] H=f (callF PP orc k) k a0_0 a0_1 a0_2 H:=by
 intros a0_0 a0_1 a0_2 H
 rw [callF_at (fn:=Go.Proofs.Try.f19) (c:=body) Go.Proofs.Try.func19 (by kernel_rfl) (Nat.le_of_ble_eq_true (by kernel_rfl)),f_eq]
 kernel_rfl
end impl_SolveFirst

namespace laws_FnNarrowAll
noncomputable def body:Code:=(Go.Proofs.Try.f9).body.getD .skip
abbrev o:=orc laws_FnNarrowAll.id
noncomputable def j3 (rec:Rec) (k:Nat) (x4:Sl) (x5:Int) (x6:Sl) (x7:Int) (y3_0:Int) (y3_1:Sl) (y3_2:Sl) (H:Hp):An:=(rec impl_NarrowAll.id [.agg [.int .i64 y3_0,.sl 1 y3_1,.sl 3 y3_2],.sl 1 x6,.int .i64 x5] H).bind fun r21=>bif r21.1.isTup 2 then ((r21.1.nth 0).toS 1).bind fun s22=>((r21.1.nth 1).toI .i64).bind fun n23=>(rec impl_SolveFirst.id [.agg [.int .i64 y3_0,.sl 1 y3_1,.sl 3 y3_2]] r21.2).bind fun r24=>bif r24.1.isTup 2 then ((r24.1.nth 0).toS 1).bind fun s25=>(r24.1.nth 1).toB.bind fun b26=>bif n23 == 0 then (rec laws_within.id [.sl 1 x6,.sl 1 x4] r24.2).bind fun r27=>r27.1.toB.bind fun b28=>bif b28 then bif !b26 then (rec impl_MasksCount.id [.sl 1 x4,.int .i64 y3_0] r27.2).bind fun r29=>(r29.1.toI .i64).bind fun n30=>some (.bool (decide (x7 ≤ n30)),r29.2) else (rec impl_MasksHave.id [.sl 1 x4,.int .i64 y3_0,.sl 1 s25] r27.2).bind fun r31=>r31.1.toB.bind fun b32=>bif !b32 then (rec impl_MasksCount.id [.sl 1 x4,.int .i64 y3_0] r31.2).bind fun r33=>(r33.1.toI .i64).bind fun n34=>some (.bool (decide (x7 ≤ n34)),r33.2) else (rec impl_MasksHave.id [.sl 1 x6,.int .i64 y3_0,.sl 1 s25] r31.2).bind fun r35=>r35.1.toB.bind fun b36=>bif b36 then (rec impl_MasksCount.id [.sl 1 x4,.int .i64 y3_0] r35.2).bind fun r37=>(r37.1.toI .i64).bind fun n38=>some (.bool (decide (x7 ≤ n38)),r37.2) else some (.bool false,r35.2) else some (.bool false,r27.2) else some (.bool false,r24.2) else none else none
noncomputable def l2 (rec:Rec) (k:Nat):Nat→Sl→Int→Sl→Int→Int→Int→Sl→Sl→Hp→An
 | 0,_,_,_,_,_,_,_,_,_=>none
 | n + 1,x4,x5,x6,x7,x10,y3_0,y3_1,y3_2,H=>bif decide (x10 ≤ x5) then (rec impl_NarrowBy.id [.agg [.int .i64 y3_0,.sl 1 y3_1,.sl 3 y3_2],.sl 1 x6,.int .i64 x10] H).bind fun r17=>(r17.1.toS 1).bind fun s18=>(rec laws_sameInts.id [.sl 1 s18,.sl 1 x6] r17.2).bind fun r19=>r19.1.toB.bind fun b20=>bif !b20 then some (.bool false,r19.2) else (l2 rec k n) x4 x5 x6 x7 (IntKind.i64.wrap (x10 + 1)) y3_0 y3_1 y3_2 r19.2 else j3 rec k x4 x5 x6 x7 y3_0 y3_1 y3_2 H
noncomputable def j1 (rec:Rec) (k:Nat) (x4:Sl) (x5:Int) (x6:Sl) (x7:Int) (y3_0:Int) (y3_1:Sl) (y3_2:Sl) (H:Hp):An:=bif decide (x7 < 0) then bif x7 == (-1) then bif (x6.len:Int) == 0 then (rec laws_alive.id [] H).bind fun r15=>r15.1.toB.bind fun b16=>some (.bool b16,r15.2) else some (.bool false,H) else some (.bool false,H) else l2 rec k k x4 x5 x6 x7 1 y3_0 y3_1 y3_2 H
noncomputable def j0 (rec:Rec) (k:Nat) (x4:Sl) (x5:Int) (x6:Sl) (x7:Int) (x46:Bool) (y3_0:Int) (y3_1:Sl) (y3_2:Sl) (H:Hp):An:=bif x46 then some (.bool false,H) else j1 rec k x4 x5 x6 x7 y3_0 y3_1 y3_2 H
noncomputable def f (rec:Rec) (k:Nat) (a0:Sl) (H:Hp):An:=bif decide ((a0.len:Int) > 1048576) then some (.bool true,H) else (rec spec_DrawNarrowAll.id [.sl 1 a0] H).bind fun r1=>bif r1.1.isTup 3 then bif (r1.1.nth 0).isAgg 3 then (((r1.1.nth 0).cel 0).toI .i64).bind fun n2=>(((r1.1.nth 0).cel 1).toS 1).bind fun s3=>(((r1.1.nth 0).cel 2).toS 3).bind fun s4=>((r1.1.nth 1).toS 1).bind fun s5=>((r1.1.nth 2).toI .i64).bind fun n6=>(rec impl_NarrowAll.id [.agg [.int .i64 n2,.sl 1 s3,.sl 3 s4],.sl 1 s5,.int .i64 n6] r1.2).bind fun r7=>bif r7.1.isTup 2 then ((r7.1.nth 0).toS 1).bind fun s8=>((r7.1.nth 1).toI .i64).bind fun n9=>(rec spec_NarrowAll.id [.agg [.int .i64 n2,.sl 1 s3,.sl 3 s4],.sl 1 s5,.int .i64 n6] r7.2).bind fun r10=>bif r10.1.isTup 2 then ((r10.1.nth 0).toS 1).bind fun s11=>((r10.1.nth 1).toI .i64).bind fun n12=>(rec laws_sameInts.id [.sl 1 s8,.sl 1 s11] r10.2).bind fun r13=>r13.1.toB.bind fun b14=>bif !b14 then j0 rec k s5 n6 s8 n9 true n2 s3 s4 r13.2 else j0 rec k s5 n6 s8 n9 (n9 != n12) n2 s3 s4 r13.2 else none else none else none else none
theorem j3_eq (rec:Rec) (k:Nat):∀ x4 x5 x6 x7 y3_0 y3_1 y3_2 H,j3 rec k x4 x5 x6 x7 y3_0 y3_1 y3_2 H=ex PP o rec k (sub body [1,1,1,1,1,1,1,1]) (St.of 117 [(3,.lp 3 0),(4,.sl 1 x4),(5,.int .i64 x5),(6,.sl 1 x6),(7,.int .i64 x7)] [(3,[.int .i64 y3_0,.sl 1 y3_1,.sl 3 y3_2])]) H (kAt PP o rec k body [1,1,1,1,1,1,1,1] [] (K0 PP Go.Proofs.Try.f9)):=by
 intros x4 x5 x6 x7 y3_0 y3_1 y3_2 H
 simp only [j3,-eq_self]
 kernel_rfl
theorem l2_eq (rec:Rec) (k:Nat):∀ n x4 x5 x6 x7 x10 y3_0 y3_1 y3_2 H,l2 rec k n x4 x5 x6 x7 x10 y3_0 y3_1 y3_2 H=iter (o.at (lbody (sub body [1,1,1,1,1,1,1,0,1,0]))) (ex PP o rec k (lbody (sub body [1,1,1,1,1,1,1,0,1,0]))) (kAt PP o rec k body [1,1,1,1,1,1,1,0,1,0] [] (K0 PP Go.Proofs.Try.f9)) n (St.of 117 [(3,.lp 3 0),(4,.sl 1 x4),(5,.int .i64 x5),(6,.sl 1 x6),(7,.int .i64 x7),(10,.int .i64 x10)] [(3,[.int .i64 y3_0,.sl 1 y3_1,.sl 3 y3_2])]) H:=by
 intro n
 induction n with
 | zero=>intros; rfl
 | succ n ih=>
  intros x4 x5 x6 x7 x10 y3_0 y3_1 y3_2 H
  simp only [l2,j3,ih,-eq_self]
  kernel_rfl
theorem j1_eq (rec:Rec) (k:Nat):∀ x4 x5 x6 x7 y3_0 y3_1 y3_2 H,j1 rec k x4 x5 x6 x7 y3_0 y3_1 y3_2 H=ex PP o rec k (sub body [1,1,1,1,1,1]) (St.of 117 [(3,.lp 3 0),(4,.sl 1 x4),(5,.int .i64 x5),(6,.sl 1 x6),(7,.int .i64 x7)] [(3,[.int .i64 y3_0,.sl 1 y3_1,.sl 3 y3_2])]) H (kAt PP o rec k body [1,1,1,1,1,1] [] (K0 PP Go.Proofs.Try.f9)):=by
 intros x4 x5 x6 x7 y3_0 y3_1 y3_2 H
 simp only [j1,l2_eq rec k,-eq_self]
 kernel_rfl
theorem j0_eq (rec:Rec) (k:Nat):∀ x4 x5 x6 x7 x46 y3_0 y3_1 y3_2 H,j0 rec k x4 x5 x6 x7 x46 y3_0 y3_1 y3_2 H=ex PP o rec k (sub body [1,1,1,1,1,0,1]) (St.of 117 [(3,.lp 3 0),(4,.sl 1 x4),(5,.int .i64 x5),(6,.sl 1 x6),(7,.int .i64 x7),(46,.bool x46)] [(3,[.int .i64 y3_0,.sl 1 y3_1,.sl 3 y3_2])]) H (kAt PP o rec k body [1,1,1,1,1,0,1] [] (K0 PP Go.Proofs.Try.f9)):=by
 intros x4 x5 x6 x7 x46 y3_0 y3_1 y3_2 H
 simp only [j0,j1,l2_eq rec k,-eq_self]
 kernel_rfl
theorem f_eq (rec:Rec) (k:Nat):∀ a0 H,f rec k a0 H=ex PP o rec k body (St.of 117 [(0,.sl 1 a0)] []) H (K0 PP Go.Proofs.Try.f9):=by
 intros a0 H
 simp only [f,j0,j1,l2_eq rec k,-eq_self]
 kernel_rfl
theorem call (k:Nat):∀ a0 H,callF PP orc (k + 1) laws_FnNarrowAll.id [.sl 1 a0] H=f (callF PP orc k) k a0 H:=by
 intros a0 H
 rw [callF_at (fn:=Go.Proofs.Try.f9) (c:=body) Go.Proofs.Try.func9 (by kernel_rfl) (Nat.le_of_ble_eq_true (by kernel_rfl)),f_eq]
 kernel_rfl
end laws_FnNarrowAll
namespace spec_DrawNarrowAll
noncomputable def body:Code:=(Go.Proofs.Try.f42).body.getD .skip
noncomputable def f (rec:Rec) (k:Nat) (a0:Sl) (H:Hp):An:=(rec spec_l20Open.id [.sl 1 a0] H).bind fun r1=>r1.1.toP.bind fun p2=>(rec spec_l20Work.id [.ptr p2.1 p2.2] r1.2).bind fun r3=>bif r3.1.isTup 2 then bif (r3.1.nth 0).isAgg 3 then (((r3.1.nth 0).cel 0).toI .i64).bind fun n4=>(((r3.1.nth 0).cel 1).toS 1).bind fun s5=>(((r3.1.nth 0).cel 2).toS 3).bind fun s6=>((r3.1.nth 1).toS 1).bind fun s7=>(rec spec_l20Rd_pick.id [.ptr p2.1 p2.2,.int .i64 4] r3.2).bind fun r8=>(r8.1.toI .i64).bind fun n9=>(rec spec_l20Rd_pick.id [.ptr p2.1 p2.2,.int .i64 7] r8.2).bind fun r10=>(r10.1.toI .i64).bind fun n11=>bif decide (0 ≤ (n11:Int)) && decide ((n11:Int) < ((7:Nat):Int)) then (([.int .i64 0,.int .i64 0,.int .i64 0,.int .i64 1,.int .i64 1,.int .i64 2,.int .i64 3]:List AV)[(n11:Int).toNat * 1]?).bind fun v12=>bif v12.cell then (v12.toI .i64).bind fun n13=>bif decide (0 ≤ (n13:Int)) && decide ((n13:Int) < ((4:Nat):Int)) then (([.int .i64 (IntKind.i64.wrap (1 + n9)),.int .i64 4,.int .i64 0,.int .i64 5]:List AV)[(n13:Int).toNat * 1]?).bind fun v14=>bif v14.cell then (v14.toI .i64).bind fun n15=>some (.tup [.agg [.int .i64 n4,.sl 1 s5,.sl 3 s6],.sl 1 s7,.int .i64 n15],r10.2) else none else none else none else none else none else none
theorem f_eq (rec:Rec) (k:Nat):∀ a0 H,f rec k a0 H=ex PP (orc spec_DrawNarrowAll.id) rec k body (St.of 28 [(0,.sl 1 a0)] []) H (K0 PP Go.Proofs.Try.f42):=by
 intros a0 H
 unfold f
 kernel_rfl
theorem call (k:Nat):∀ a0 H,callF PP orc (k + 1) spec_DrawNarrowAll.id [.sl 1 a0] H=f (callF PP orc k) k a0 H:=by
 intros a0 H
 rw [callF_at (fn:=Go.Proofs.Try.f42) (c:=body) Go.Proofs.Try.func42 (by kernel_rfl) (Nat.le_of_ble_eq_true (by kernel_rfl)),f_eq]
 kernel_rfl
end spec_DrawNarrowAll
end Go.Proofs.Ytchliocobgkmbaa.Rp
