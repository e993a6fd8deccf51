/- Texts for the row of the law FnStartMasks, part 8: the plain machine, the program's functions on it, what they come to. No conditions. -/
import Derived.Test.YtjikkamhljbipaaAb
import Derived.Test.YtjikkamhljbipaaOr
set_option linter.unusedVariables false
set_option linter.unusedSimpArgs false
set_option maxRecDepth 100000
namespace Go.Proofs.Ytjikkamhljbipaa.Rp
open Go Go.Proofs.Ytjikkamhljbipaa.Ab
namespace impl_firstSolutions
noncomputable def body:Code:=(Go.Proofs.Try.f63).body.getD .skip
noncomputable def f (rec:Rec) (k:Nat) (a0_0:Int) (a0_1:Sl) (a0_2:Sl) (a1:Sl) (a2:Int) (H:Hp):An:=((H ++ [some (Blk.mk false [.int .i64 a2])] ++ [some (Blk.mk false [])] ++ [some (Blk.mk false [.sl 1 Sl.none])]).sto ((H ++ [some (Blk.mk false [.int .i64 a2])] ++ [some (Blk.mk false [])]).length) 0 [.sl 1 (Sl.mk false ((H ++ [some (Blk.mk false [.int .i64 a2])]).length) 0 0)]).bind fun H1=>(rec impl_solutions.id [.agg [.int .i64 a0_0,.sl 1 a0_1,.sl 3 a0_2],.sl 1 a1,.fn impl_firstSolutions_1.id [.ptr ((H ++ [some (Blk.mk false [.int .i64 a2])] ++ [some (Blk.mk false [])]).length) 0,.ptr H.length 0]] H1).bind fun r2=>(ldS 1 r2.2 ((H ++ [some (Blk.mk false [.int .i64 a2])] ++ [some (Blk.mk false [])]).length) 0).bind fun s3=>some (.sl 1 s3,r2.2)
theorem f_eq (rec:Rec) (k:Nat):∀ a0_0 a0_1 a0_2 a1 a2 H,f rec k a0_0 a0_1 a0_2 a1 a2 H=ex PP (orc impl_firstSolutions.id) rec k body (St.of 14 [(0,.agg [.int .i64 a0_0,.sl 1 a0_1,.sl 3 a0_2]),(1,.sl 1 a1),(2,.int .i64 a2)] []) H (K0 PP Go.Proofs.Try.f63):=by
 intros a0_0 a0_1 a0_2 a1 a2 H
 unfold f
 kernel_rfl
theorem call (k:Nat):∀ a0_0 a0_1 a0_2 a1 a2 H,callF PP orc (k + 1) impl_firstSolutions.id [.agg [.int .i64 a0_0,.sl 1 a0_1,.sl 3 a0_2],.sl 1 a1,.int .i64 a2] H=f (callF PP orc k) k a0_0 a0_1 a0_2 a1 a2 H:=by
 intros a0_0 a0_1 a0_2 a1 a2 H
 rw [callF_at (fn:=Go.Proofs.Try.f63) (c:=body) Go.Proofs.Try.func63 (by kernel_rfl) (Nat.le_of_ble_eq_true (by kernel_rfl)),f_eq]
 kernel_rfl
end impl_firstSolutions
namespace impl_firstSolutions_1
noncomputable def body:Code:=(Go.Proofs.Try.f93).body.getD .skip
noncomputable def f (rec:Rec) (k:Nat) (a0:Sl) (c0b:Nat) (c0o:Nat) (c1b:Nat) (c1o:Nat) (H:Hp):An:=(ldS 1 H c0b c0o).bind fun s1=>(rec slices_Clone_int.id [.sl 1 a0] H).bind fun r2=>(r2.1.toS 1).bind fun s3=>bif stableB H r2.2 c0b c0o 1 && true then (r2.2.app 1 s1 1 [.sl 1 s3]).bind fun w4=>(w4.2.sto c0b c0o [.sl 1 w4.1]).bind fun H5=>(ldS 1 H5 c0b c0o).bind fun s6=>(ldI .i64 H5 c1b c1o).bind fun n7=>some (.bool (decide ((s6.len:Int) < n7)),H5) else none
theorem f_eq (rec:Rec) (k:Nat):∀ a0 c0b c0o c1b c1o H,f rec k a0 c0b c0o c1b c1o H=ex PP (orc impl_firstSolutions_1.id) rec k body (St.of 14 [(0,.sl 1 a0),(1,.ptr c0b c0o),(2,.ptr c1b c1o)] []) H (K0 PP Go.Proofs.Try.f93):=by
 intros a0 c0b c0o c1b c1o H
 unfold f
 kernel_rfl
theorem call (k:Nat):∀ a0 c0b c0o c1b c1o H,callF PP orc (k + 1) impl_firstSolutions_1.id [.sl 1 a0,.ptr c0b c0o,.ptr c1b c1o] H=f (callF PP orc k) k a0 c0b c0o c1b c1o H:=by
 intros a0 c0b c0o c1b c1o H
 rw [callF_at (fn:=Go.Proofs.Try.f93) (c:=body) Go.Proofs.Try.func93 (by kernel_rfl) (Nat.le_of_ble_eq_true (by kernel_rfl)),f_eq]
 kernel_rfl
end impl_firstSolutions_1
namespace impl_SolveFirst
noncomputable def body:Code:=(Go.Proofs.Try.f23).body.getD .skip
noncomputable def f (rec:Rec) (k:Nat) (a0_0:Int) (a0_1:Sl) (a0_2:Sl) (H:Hp):An:=(rec impl_PuzzleValid.id [.agg [.int .i64 a0_0,.sl 1 a0_1,.sl 3 a0_2]] H).bind fun r1=>r1.1.toB.bind fun b2=>bif !b2 then some (.tup [.sl 1 Sl.none,.bool false],r1.2) else (rec impl_firstSolutions.id [.agg [.int .i64 a0_0,.sl 1 a0_1,.sl 3 a0_2],.sl 1 a0_1,.int .i64 1] r1.2).bind fun r3=>(r3.1.toS 1).bind fun s4=>bif (s4.len:Int) == 0 then some (.tup [.sl 1 Sl.none,.bool false],r3.2) else bif decide (0 ≤ (0:Int)) && decide ((0:Int) < s4.len) then (ldS 1 r3.2 s4.blk (s4.off + (0:Int).toNat * 1)).bind fun s5=>some (.tup [.sl 1 s5,.bool true],r3.2) else none
theorem f_eq (rec:Rec) (k:Nat):∀ a0_0 a0_1 a0_2 H,f rec k a0_0 a0_1 a0_2 H=ex PP (orc impl_SolveFirst.id) rec k body (St.of 18 [(0,.agg [.int .i64 a0_0,.sl 1 a0_1,.sl 3 a0_2])] []) H (K0 PP Go.Proofs.Try.f23):=by
 intros a0_0 a0_1 a0_2 H
 unfold f
 kernel_rfl
theorem call (k:Nat):∀ a0_0 a0_1 a0_2 H,callF PP orc (k + 1) impl_SolveFirst.id [.agg [.int .i64 a0_0,.sl 1 a0_1,.sl 3 a0_2]] H=f (callF PP orc k) k a0_0 a0_1 a0_2 H:=by
 intros a0_0 a0_1 a0_2 H
 rw [callF_at (fn:=Go.Proofs.Try.f23) (c:=body) Go.Proofs.Try.func23 (by kernel_rfl) (Nat.le_of_ble_eq_true (by kernel_rfl)),f_eq]
 kernel_rfl
end impl_SolveFirst

namespace laws_FnStartMasks
noncomputable def body:Code:=(Go.Proofs.Try.f10).body.getD .skip
abbrev o:=orc laws_FnStartMasks.id
abbrev TL0:=Sl→Int→Int→Sl→Sl→Hp→An
abbrev PhL0 (rec:Rec) (k n0:Nat) (L0:TL0):Prop:=∀ x4 x5 y3_0 y3_1 y3_2 H,L0 x4 x5 y3_0 y3_1 y3_2 H=iter (o.at (lbody (sub body [1,1,1,1,1,1,0,1,0]))) (ex PP o rec k (lbody (sub body [1,1,1,1,1,1,0,1,0]))) (kAt PP o rec k body [1,1,1,1,1,1,0,1,0] [] (K0 PP Go.Proofs.Try.f10)) n0 (St.of 93 [(3,.lp 3 0),(4,.sl 1 x4),(5,.int .i64 x5)] [(3,[.int .i64 y3_0,.sl 1 y3_1,.sl 3 y3_2])]) H
noncomputable def j2 (rec:Rec) (k:Nat) (x4:Sl) (y3_0:Int) (y3_1:Sl) (y3_2:Sl) (H:Hp):An:=(rec impl_SolveFirst.id [.agg [.int .i64 y3_0,.sl 1 y3_1,.sl 3 y3_2]] H).bind fun r25=>bif r25.1.isTup 2 then ((r25.1.nth 0).toS 1).bind fun s26=>(r25.1.nth 1).toB.bind fun b27=>(rec impl_MasksValid.id [.sl 1 x4,.int .i64 y3_0] r25.2).bind fun r28=>r28.1.toB.bind fun b29=>bif b29 then bif !b27 then some (.bool true,r28.2) else (rec impl_MasksHave.id [.sl 1 x4,.int .i64 y3_0,.sl 1 s26] r28.2).bind fun r30=>r30.1.toB.bind fun b31=>some (.bool b31,r30.2) else some (.bool false,r28.2) else none
noncomputable def j3 (rec:Rec) (k:Nat) (L0:TL0) (x4:Sl) (x5:Int) (y3_0:Int) (y3_1:Sl) (y3_2:Sl) (H:Hp):An:=L0 x4 (IntKind.i64.wrap (x5 + 1)) y3_0 y3_1 y3_2 H
noncomputable def j1 (rec:Rec) (k:Nat) (L0:TL0) (x4:Sl) (x5:Int) (x72:Bool) (y3_0:Int) (y3_1:Sl) (y3_2:Sl) (H:Hp):An:=bif x72 then some (.bool false,H) else j3 rec k L0 x4 x5 y3_0 y3_1 y3_2 H
noncomputable def l0 (rec:Rec) (k:Nat):Nat→Sl→Int→Int→Sl→Sl→Hp→An
 | 0,_,_,_,_,_,_=>none
 | n + 1,x4,x5,y3_0,y3_1,y3_2,H=>bif decide (x5 < (x4.len:Int)) then bif decide (0 ≤ (x5:Int)) && decide ((x5:Int) < y3_1.len) then (ldI .i64 H y3_1.blk (y3_1.off + (x5:Int).toNat * 1)).bind fun n15=>bif n15 == 0 then bif decide (0 ≤ (x5:Int)) && decide ((x5:Int) < x4.len) then (ldI .i64 H x4.blk (x4.off + (x5:Int).toNat * 1)).bind fun n16=>(rec impl_MaskValues.id [.int .i64 n16] H).bind fun r17=>(r17.1.toS 1).bind fun s18=>bif (s18.len:Int) != y3_0 then j1 rec k (l0 rec k n) x4 x5 true y3_0 y3_1 y3_2 r17.2 else bif decide (0 ≤ (x5:Int)) && decide ((x5:Int) < y3_1.len) then (ldI .i64 r17.2 y3_1.blk (y3_1.off + (x5:Int).toNat * 1)).bind fun n19=>bif decide (n19 > 0) then bif decide (0 ≤ (x5:Int)) && decide ((x5:Int) < x4.len) then (ldI .i64 r17.2 x4.blk (x4.off + (x5:Int).toNat * 1)).bind fun n20=>bif decide (0 ≤ (x5:Int)) && decide ((x5:Int) < y3_1.len) then (ldI .i64 r17.2 y3_1.blk (y3_1.off + (x5:Int).toNat * 1)).bind fun n21=>if (n21:Int) < 0 then none else j1 rec k (l0 rec k n) x4 x5 (n20 != (IntKind.i64.wrap (1 * 2 ^ (min (n21:Int).toNat IntKind.i64.bits)))) y3_0 y3_1 y3_2 r17.2 else none else none else j1 rec k (l0 rec k n) x4 x5 false y3_0 y3_1 y3_2 r17.2 else none else none else bif decide (0 ≤ (x5:Int)) && decide ((x5:Int) < y3_1.len) then (ldI .i64 H y3_1.blk (y3_1.off + (x5:Int).toNat * 1)).bind fun n22=>bif decide (n22 > 0) then bif decide (0 ≤ (x5:Int)) && decide ((x5:Int) < x4.len) then (ldI .i64 H x4.blk (x4.off + (x5:Int).toNat * 1)).bind fun n23=>bif decide (0 ≤ (x5:Int)) && decide ((x5:Int) < y3_1.len) then (ldI .i64 H y3_1.blk (y3_1.off + (x5:Int).toNat * 1)).bind fun n24=>if (n24:Int) < 0 then none else j1 rec k (l0 rec k n) x4 x5 (n23 != (IntKind.i64.wrap (1 * 2 ^ (min (n24:Int).toNat IntKind.i64.bits)))) y3_0 y3_1 y3_2 H else none else none else j1 rec k (l0 rec k n) x4 x5 false y3_0 y3_1 y3_2 H else none else none else j2 rec k x4 y3_0 y3_1 y3_2 H
noncomputable def f (rec:Rec) (k:Nat) (a0:Sl) (H:Hp):An:=bif decide ((a0.len:Int) > 1048576) then some (.bool true,H) else (rec spec_DrawStartMasks.id [.sl 1 a0] H).bind fun r1=>bif r1.1.isAgg 3 then ((r1.1.cel 0).toI .i64).bind fun n2=>((r1.1.cel 1).toS 1).bind fun s3=>((r1.1.cel 2).toS 3).bind fun s4=>(rec impl_StartMasks.id [.agg [.int .i64 n2,.sl 1 s3,.sl 3 s4]] r1.2).bind fun r5=>(r5.1.toS 1).bind fun s6=>(rec spec_StartMasks.id [.agg [.int .i64 n2,.sl 1 s3,.sl 3 s4]] r5.2).bind fun r7=>(r7.1.toS 1).bind fun s8=>(rec laws_sameInts.id [.sl 1 s6,.sl 1 s8] r7.2).bind fun r9=>r9.1.toB.bind fun b10=>bif !b10 then some (.bool false,r9.2) else (rec spec_PuzzleValid.id [.agg [.int .i64 n2,.sl 1 s3,.sl 3 s4]] r9.2).bind fun r11=>r11.1.toB.bind fun b12=>bif !b12 then bif (s6.len:Int) == 0 then (rec laws_alive.id [] r11.2).bind fun r13=>r13.1.toB.bind fun b14=>some (.bool b14,r13.2) else some (.bool false,r11.2) else l0 rec k k s6 0 n2 s3 s4 r11.2 else none
theorem j2_eq (rec:Rec) (k:Nat):∀ x4 y3_0 y3_1 y3_2 H,j2 rec k x4 y3_0 y3_1 y3_2 H=ex PP o rec k (sub body [1,1,1,1,1,1,1]) (St.of 93 [(3,.lp 3 0),(4,.sl 1 x4)] [(3,[.int .i64 y3_0,.sl 1 y3_1,.sl 3 y3_2])]) H (kAt PP o rec k body [1,1,1,1,1,1,1] [] (K0 PP Go.Proofs.Try.f10)):=by
 intros x4 y3_0 y3_1 y3_2 H
 simp only [j2,-eq_self]
 kernel_rfl
theorem j3_eq (rec:Rec) (k:Nat) (n0:Nat) (L0:TL0) (hL0:PhL0 rec k n0 L0):∀ x4 x5 y3_0 y3_1 y3_2 H,j3 rec k L0 x4 x5 y3_0 y3_1 y3_2 H=ex PP o rec k (sub body [1,1,1,1,1,1,0,1,0,0,1,1]) (St.of 93 [(3,.lp 3 0),(4,.sl 1 x4),(5,.int .i64 x5)] [(3,[.int .i64 y3_0,.sl 1 y3_1,.sl 3 y3_2])]) H (kAt PP o rec k body [1,1,1,1,1,1,0,1,0,0,1,1] [n0] (K0 PP Go.Proofs.Try.f10)):=by
 intros x4 x5 y3_0 y3_1 y3_2 H
 simp only [j3,hL0,-eq_self]
 kernel_rfl
theorem j1_eq (rec:Rec) (k:Nat) (n0:Nat) (L0:TL0) (hL0:PhL0 rec k n0 L0):∀ x4 x5 x72 y3_0 y3_1 y3_2 H,j1 rec k L0 x4 x5 x72 y3_0 y3_1 y3_2 H=ex PP o rec k (sub body [1,1,1,1,1,1,0,1,0,0,1,0,0,1]) (St.of 93 [(3,.lp 3 0),(4,.sl 1 x4),(5,.int .i64 x5),(72,.bool x72)] [(3,[.int .i64 y3_0,.sl 1 y3_1,.sl 3 y3_2])]) H (kAt PP o rec k body [1,1,1,1,1,1,0,1,0,0,1,0,0,1] [n0] (K0 PP Go.Proofs.Try.f10)):=by
 intros x4 x5 x72 y3_0 y3_1 y3_2 H
 simp only [j1,j3,hL0,-eq_self]
 kernel_rfl
theorem l0_eq (rec:Rec) (k:Nat):∀ n x4 x5 y3_0 y3_1 y3_2 H,l0 rec k n x4 x5 y3_0 y3_1 y3_2 H=iter (o.at (lbody (sub body [1,1,1,1,1,1,0,1,0]))) (ex PP o rec k (lbody (sub body [1,1,1,1,1,1,0,1,0]))) (kAt PP o rec k body [1,1,1,1,1,1,0,1,0] [] (K0 PP Go.Proofs.Try.f10)) n (St.of 93 [(3,.lp 3 0),(4,.sl 1 x4),(5,.int .i64 x5)] [(3,[.int .i64 y3_0,.sl 1 y3_1,.sl 3 y3_2])]) H:=by
 intro n
 induction n with
 | zero=>intros; rfl
 | succ n ih=>
  intros x4 x5 y3_0 y3_1 y3_2 H
  simp only [l0,j1,j2,j3,ih,-eq_self]
  kernel_rfl
theorem f_eq (rec:Rec) (k:Nat):∀ a0 H,f rec k a0 H=ex PP o rec k body (St.of 93 [(0,.sl 1 a0)] []) H (K0 PP Go.Proofs.Try.f10):=by
 intros a0 H
 simp only [f,l0_eq rec k,-eq_self]
 kernel_rfl
theorem call (k:Nat):∀ a0 H,callF PP orc (k + 1) laws_FnStartMasks.id [.sl 1 a0] H=f (callF PP orc k) k a0 H:=by
 intros a0 H
 rw [callF_at (fn:=Go.Proofs.Try.f10) (c:=body) Go.Proofs.Try.func10 (by kernel_rfl) (Nat.le_of_ble_eq_true (by kernel_rfl)),f_eq]
 kernel_rfl
end laws_FnStartMasks
end Go.Proofs.Ytjikkamhljbipaa.Rp
