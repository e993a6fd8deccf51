/- Texts for the row of the law FnSolveSteps, part 6: the plain machine, the program's functions on it, what they come to. No conditions. -/
import Derived.Test.YtchliocobgkmbaaAb
import Derived.Test.YtchliocobgkmbaaOr
set_option linter.unusedVariables false
set_option linter.unusedSimpArgs false
set_option maxRecDepth 100000
namespace Go.Proofs.Ytchliocobgkmbaa.Rp
open Go Go.Proofs.Ytchliocobgkmbaa.Ab
namespace laws_alive
noncomputable def body:Code:=(Go.Proofs.Try.f17).body.getD .skip
noncomputable def f (rec:Rec) (k:Nat) (H:Hp):An:=(rec impl_GridFilled.id [.sl 1 (Sl.mk false H.length 0 4),.int .i64 2] (H ++ [some (Blk.mk false [.int .i64 1,.int .i64 0,.int .i64 0,.int .i64 2])])).bind fun r1=>(r1.1.toI .i64).bind fun n2=>some (.bool (n2 == 2),r1.2)
theorem f_eq (rec:Rec) (k:Nat):∀ H,f rec k H=ex PP (orc laws_alive.id) rec k body (St.of 4 [] []) H (K0 PP Go.Proofs.Try.f17):=by
 intros H
 unfold f
 kernel_rfl
theorem call (k:Nat):∀ H,callF PP orc (k + 1) laws_alive.id [] H=f (callF PP orc k) k H:=by
 intros H
 rw [callF_at (fn:=Go.Proofs.Try.f17) (c:=body) Go.Proofs.Try.func17 (by kernel_rfl) (Nat.le_of_ble_eq_true (by kernel_rfl)),f_eq]
 kernel_rfl
end laws_alive
namespace slices_Clone_int
noncomputable def body:Code:=(Go.Proofs.Try.f65).body.getD .skip
noncomputable def f (rec:Rec) (k:Nat) (a0:Sl) (H:Hp):An:=bif a0.nil then some (.sl 1 Sl.none,H) else (H.read 1 a0).bind fun c2=>(H.appl 1 [] 0 a0.len c2).bind fun w1=>bif true && c2.all AV.cell then some (.sl 1 w1.1,w1.2) else none
theorem f_eq (rec:Rec) (k:Nat):∀ a0 H,f rec k a0 H=ex PP (orc slices_Clone_int.id) rec k body (St.of 8 [(0,.sl 1 a0)] []) H (K0 PP Go.Proofs.Try.f65):=by
 intros a0 H
 unfold f
 kernel_rfl
theorem call (k:Nat):∀ a0 H,callF PP orc (k + 1) slices_Clone_int.id [.sl 1 a0] H=f (callF PP orc k) k a0 H:=by
 intros a0 H
 rw [callF_at (fn:=Go.Proofs.Try.f65) (c:=body) Go.Proofs.Try.func65 (by kernel_rfl) (Nat.le_of_ble_eq_true (by kernel_rfl)),f_eq]
 kernel_rfl
end slices_Clone_int
namespace impl_allValues
noncomputable def body:Code:=(Go.Proofs.Try.f72).body.getD .skip
noncomputable def f (rec:Rec) (k:Nat) (a0:Int) (H:Hp):An:=if (IntKind.i64.wrap (a0 + 1):Int) < 0 then none else some (.int .i64 (IntKind.i64.wrap ((IntKind.i64.wrap (1 * 2 ^ (min (IntKind.i64.wrap (a0 + 1):Int).toNat IntKind.i64.bits))) - 2)),H)
theorem f_eq (rec:Rec) (k:Nat):∀ a0 H,f rec k a0 H=ex PP (orc impl_allValues.id) rec k body (St.of 7 [(0,.int .i64 a0)] []) H (K0 PP Go.Proofs.Try.f72):=by
 intros a0 H
 unfold f
 kernel_rfl
theorem call (k:Nat):∀ a0 H,callF PP orc (k + 1) impl_allValues.id [.int .i64 a0] H=f (callF PP orc k) k a0 H:=by
 intros a0 H
 rw [callF_at (fn:=Go.Proofs.Try.f72) (c:=body) Go.Proofs.Try.func72 (by kernel_rfl) (Nat.le_of_ble_eq_true (by kernel_rfl)),f_eq]
 kernel_rfl
end impl_allValues
namespace impl_valuesHold
noncomputable def body:Code:=(Go.Proofs.Try.f119).body.getD .skip
abbrev o:=orc impl_valuesHold.id
abbrev TL0:=Sl→Int→Int→Sl→Int→Int→Int→Sl→Int→Hp→An
abbrev PhL0 (rec:Rec) (k n0:Nat) (L0:TL0):Prop:=∀ x1 x5 x6 x9 x10 x11 y2_0 y2_1 y2_2 H,L0 x1 x5 x6 x9 x10 x11 y2_0 y2_1 y2_2 H=iter (o.at (lbody (sub body [1,1,0,1,0]))) (ex PP o rec k (lbody (sub body [1,1,0,1,0]))) (kAt PP o rec k body [1,1,0,1,0] [] (K0 PP Go.Proofs.Try.f119)) n0 (St.of 76 [(1,.sl 1 x1),(2,.lp 2 0),(5,.int .i64 x5),(6,.int .i64 x6),(9,.sl 1 x9),(10,.int .i64 x10),(11,.int .i64 x11)] [(2,[.int .i64 y2_0,.sl 1 y2_1,.int .i64 y2_2])]) H
noncomputable def j2 (rec:Rec) (k:Nat) (x1:Sl) (x5:Int) (x6:Int) (y2_0:Int) (y2_1:Sl) (y2_2:Int) (H:Hp):An:=bif y2_0 == 2 then some (.bool (x5 == y2_2),H) else bif y2_0 == 3 then some (.bool (x6 == y2_2),H) else bif y2_0 == 4 then bif decide (0 ≤ (0:Int)) && decide ((0:Int) < x1.len) then (ldI .i64 H x1.blk (x1.off + (0:Int).toNat * 1)).bind fun n4=>bif decide (0 ≤ (1:Int)) && decide ((1:Int) < x1.len) then (ldI .i64 H x1.blk (x1.off + (1:Int).toNat * 1)).bind fun n5=>some (.bool (decide (n4 < n5)),H) else none else none else bif y2_0 == 5 then bif decide (0 ≤ (0:Int)) && decide ((0:Int) < x1.len) then (ldI .i64 H x1.blk (x1.off + (0:Int).toNat * 1)).bind fun n6=>bif decide (0 ≤ (1:Int)) && decide ((1:Int) < x1.len) then (ldI .i64 H x1.blk (x1.off + (1:Int).toNat * 1)).bind fun n7=>bif decide (0 ≤ (1:Int)) && decide ((1:Int) < x1.len) then (ldI .i64 H x1.blk (x1.off + (1:Int).toNat * 1)).bind fun n8=>bif decide (0 ≤ (0:Int)) && decide ((0:Int) < x1.len) then (ldI .i64 H x1.blk (x1.off + (0:Int).toNat * 1)).bind fun n9=>some (.bool ((mx (IntKind.i64.wrap (n6 - n7)) (IntKind.i64.wrap (n8 - n9))) == y2_2),H) else none else none else none else none else some (.bool true,H)
noncomputable def j3 (rec:Rec) (k:Nat) (L0:TL0) (x1:Sl) (x5:Int) (x6:Int) (x9:Sl) (x10:Int) (x11:Int) (y2_0:Int) (y2_1:Sl) (y2_2:Int) (H:Hp):An:=L0 x1 x5 x6 x9 x10 (IntKind.i64.wrap (x11 + 1)) y2_0 y2_1 y2_2 H
noncomputable def j1 (rec:Rec) (k:Nat) (L0:TL0) (x1:Sl) (x5:Int) (x6:Int) (x9:Sl) (x10:Int) (x11:Int) (x31:Bool) (y2_0:Int) (y2_1:Sl) (y2_2:Int) (H:Hp):An:=bif x31 then some (.bool false,H) else j3 rec k L0 x1 x5 x6 x9 x10 x11 y2_0 y2_1 y2_2 H
noncomputable def l0 (rec:Rec) (k:Nat):Nat→Sl→Int→Int→Sl→Int→Int→Int→Sl→Int→Hp→An
 | 0,_,_,_,_,_,_,_,_,_,_=>none
 | n + 1,x1,x5,x6,x9,x10,x11,y2_0,y2_1,y2_2,H=>bif decide (x11 < x10) then bif decide (0 ≤ (x11:Int)) && decide ((x11:Int) < x9.len) then (ldI .i64 H x9.blk (x9.off + (x11:Int).toNat * 1)).bind fun n1=>bif y2_0 == 1 then if (0 ≤ (0:Int)∧(0:Int) ≤ x11∧(x11:Int) ≤ x1.len∧(x11:Int)=x11)∧0 < 1∧true=true then (rec slices_Contains_int.id [.sl 1 (Sl.mk x1.nil x1.blk (x1.off + (0:Int).toNat * 1) ((x11:Int) - 0).toNat),.int .i64 n1] H).bind fun r2=>r2.1.toB.bind fun b3=>j1 rec k (l0 rec k n) x1 (IntKind.i64.wrap (x5 + n1)) (IntKind.i64.wrap (x6 * n1)) x9 x10 x11 b3 y2_0 y2_1 y2_2 r2.2 else none else j1 rec k (l0 rec k n) x1 (IntKind.i64.wrap (x5 + n1)) (IntKind.i64.wrap (x6 * n1)) x9 x10 x11 false y2_0 y2_1 y2_2 H else none else j2 rec k x1 x5 x6 y2_0 y2_1 y2_2 H
noncomputable def f (rec:Rec) (k:Nat) (a0_0:Int) (a0_1:Sl) (a0_2:Int) (a1:Sl) (H:Hp):An:=l0 rec k k a1 0 1 a1 (a1.len:Int) 0 a0_0 a0_1 a0_2 H
theorem j2_eq (rec:Rec) (k:Nat):∀ x1 x5 x6 y2_0 y2_1 y2_2 H,j2 rec k x1 x5 x6 y2_0 y2_1 y2_2 H=ex PP o rec k (sub body [1,1,1]) (St.of 76 [(1,.sl 1 x1),(2,.lp 2 0),(5,.int .i64 x5),(6,.int .i64 x6)] [(2,[.int .i64 y2_0,.sl 1 y2_1,.int .i64 y2_2])]) H (kAt PP o rec k body [1,1,1] [] (K0 PP Go.Proofs.Try.f119)):=by
 intros x1 x5 x6 y2_0 y2_1 y2_2 H
 unfold j2
 kernel_rfl
theorem j3_eq (rec:Rec) (k:Nat) (n0:Nat) (L0:TL0) (hL0:PhL0 rec k n0 L0):∀ x1 x5 x6 x9 x10 x11 y2_0 y2_1 y2_2 H,j3 rec k L0 x1 x5 x6 x9 x10 x11 y2_0 y2_1 y2_2 H=ex PP o rec k (sub body [1,1,0,1,0,0,1,1,1]) (St.of 76 [(1,.sl 1 x1),(2,.lp 2 0),(5,.int .i64 x5),(6,.int .i64 x6),(9,.sl 1 x9),(10,.int .i64 x10),(11,.int .i64 x11)] [(2,[.int .i64 y2_0,.sl 1 y2_1,.int .i64 y2_2])]) H (kAt PP o rec k body [1,1,0,1,0,0,1,1,1] [n0] (K0 PP Go.Proofs.Try.f119)):=by
 intros x1 x5 x6 x9 x10 x11 y2_0 y2_1 y2_2 H
 unfold j3
 try simp only [hL0,-eq_self]
 kernel_rfl
theorem j1_eq (rec:Rec) (k:Nat) (n0:Nat) (L0:TL0) (hL0:PhL0 rec k n0 L0):∀ x1 x5 x6 x9 x10 x11 x31 y2_0 y2_1 y2_2 H,j1 rec k L0 x1 x5 x6 x9 x10 x11 x31 y2_0 y2_1 y2_2 H=ex PP o rec k (sub body [1,1,0,1,0,0,1,1,0,0,1,1,1,1]) (St.of 76 [(1,.sl 1 x1),(2,.lp 2 0),(5,.int .i64 x5),(6,.int .i64 x6),(9,.sl 1 x9),(10,.int .i64 x10),(11,.int .i64 x11),(31,.bool x31)] [(2,[.int .i64 y2_0,.sl 1 y2_1,.int .i64 y2_2])]) H (kAt PP o rec k body [1,1,0,1,0,0,1,1,0,0,1,1,1,1] [n0] (K0 PP Go.Proofs.Try.f119)):=by
 intros x1 x5 x6 x9 x10 x11 x31 y2_0 y2_1 y2_2 H
 unfold j1
 try simp only [hL0,j3_eq rec k n0 L0 hL0,-eq_self]
 kernel_rfl
theorem l0_eq (rec:Rec) (k:Nat):∀ n x1 x5 x6 x9 x10 x11 y2_0 y2_1 y2_2 H,l0 rec k n x1 x5 x6 x9 x10 x11 y2_0 y2_1 y2_2 H=iter (o.at (lbody (sub body [1,1,0,1,0]))) (ex PP o rec k (lbody (sub body [1,1,0,1,0]))) (kAt PP o rec k body [1,1,0,1,0] [] (K0 PP Go.Proofs.Try.f119)) n (St.of 76 [(1,.sl 1 x1),(2,.lp 2 0),(5,.int .i64 x5),(6,.int .i64 x6),(9,.sl 1 x9),(10,.int .i64 x10),(11,.int .i64 x11)] [(2,[.int .i64 y2_0,.sl 1 y2_1,.int .i64 y2_2])]) H:=by
 intro n
 induction n with
 | zero=>intros; rfl
 | succ n ih=>
  intros x1 x5 x6 x9 x10 x11 y2_0 y2_1 y2_2 H
  simp only [l0,j1_eq rec k n (l0 rec k n) (fun x1 x5 x6 x9 x10 x11 y2_0 y2_1 y2_2 H=>ih x1 x5 x6 x9 x10 x11 y2_0 y2_1 y2_2 H),j2_eq rec k,ih,-eq_self]
  kernel_rfl
theorem f_eq (rec:Rec) (k:Nat):∀ a0_0 a0_1 a0_2 a1 H,f rec k a0_0 a0_1 a0_2 a1 H=ex PP o rec k body (St.of 76 [(0,.agg [.int .i64 a0_0,.sl 1 a0_1,.int .i64 a0_2]),(1,.sl 1 a1)] []) H (K0 PP Go.Proofs.Try.f119):=by
 intros a0_0 a0_1 a0_2 a1 H
 unfold f
 try simp only [l0_eq rec k,-eq_self]
 kernel_rfl
theorem call (k:Nat):∀ a0_0 a0_1 a0_2 a1 H,callF PP orc (k + 1) impl_valuesHold.id [.agg [.int .i64 a0_0,.sl 1 a0_1,.int .i64 a0_2],.sl 1 a1] H=f (callF PP orc k) k a0_0 a0_1 a0_2 a1 H:=by
 intros a0_0 a0_1 a0_2 a1 H
 rw [callF_at (fn:=Go.Proofs.Try.f119) (c:=body) Go.Proofs.Try.func119 (by kernel_rfl) (Nat.le_of_ble_eq_true (by kernel_rfl)),f_eq]
 kernel_rfl
end impl_valuesHold
namespace impl_ruleMasks
noncomputable def body:Code:=(Go.Proofs.Try.f98).body.getD .skip
noncomputable def f (rec:Rec) (k:Nat) (a0_0:Int) (a0_1:Sl) (a0_2:Int) (a1:Sl) (H:Hp):An:=(ldS 1 (H ++ [some (Blk.mk false [.int .i64 a0_0,.sl 1 a0_1,.int .i64 a0_2])] ++ [some (Blk.mk false [.sl 1 a1])]) ((H ++ [some (Blk.mk false [.int .i64 a0_0,.sl 1 a0_1,.int .i64 a0_2])]).length) 0).bind fun s1=>if 0 ≤ ((s1.len:Int):Int)∧((s1.len:Int):Int) ≤ (s1.len:Int)∧((s1.len:Int):Int) ≤ 1073741824∧8 ≤ 8192∧0 < 1 then ((H ++ [some (Blk.mk false [.int .i64 a0_0,.sl 1 a0_1,.int .i64 a0_2])] ++ [some (Blk.mk false [.sl 1 a1])] ++ [some (Blk.mk false (List.replicate ((s1.len:Int):Int).toNat [.int .i64 0]).flatten)] ++ [some (Blk.mk false [.sl 1 Sl.none])]).sto ((H ++ [some (Blk.mk false [.int .i64 a0_0,.sl 1 a0_1,.int .i64 a0_2])] ++ [some (Blk.mk false [.sl 1 a1])] ++ [some (Blk.mk false (List.replicate ((s1.len:Int):Int).toNat [.int .i64 0]).flatten)]).length) 0 [.sl 1 (Sl.mk false (H ++ [some (Blk.mk false [.int .i64 a0_0,.sl 1 a0_1,.int .i64 a0_2])] ++ [some (Blk.mk false [.sl 1 a1])]).length 0 ((s1.len:Int):Int).toNat)]).bind fun H2=>(ldS 1 H2 ((H ++ [some (Blk.mk false [.int .i64 a0_0,.sl 1 a0_1,.int .i64 a0_2])]).length) 0).bind fun s3=>if 0 ≤ ((s3.len:Int):Int)∧((s3.len:Int):Int) ≤ (s3.len:Int)∧((s3.len:Int):Int) ≤ 1073741824∧8 ≤ 8192∧0 < 1 then ((H2 ++ [some (Blk.mk false (List.replicate ((s3.len:Int):Int).toNat [.int .i64 0]).flatten)] ++ [some (Blk.mk false [.sl 1 Sl.none])]).sto ((H2 ++ [some (Blk.mk false (List.replicate ((s3.len:Int):Int).toNat [.int .i64 0]).flatten)]).length) 0 [.sl 1 (Sl.mk false H2.length 0 ((s3.len:Int):Int).toNat)]).bind fun H4=>((H4 ++ [some (Blk.mk false [.nilf])]).sto H4.length 0 [.fn impl_ruleMasks_1.id [.ptr ((H ++ [some (Blk.mk false [.int .i64 a0_0,.sl 1 a0_1,.int .i64 a0_2])]).length) 0,.ptr H.length 0,.ptr ((H2 ++ [some (Blk.mk false (List.replicate ((s3.len:Int):Int).toNat [.int .i64 0]).flatten)]).length) 0,.ptr ((H ++ [some (Blk.mk false [.int .i64 a0_0,.sl 1 a0_1,.int .i64 a0_2])] ++ [some (Blk.mk false [.sl 1 a1])] ++ [some (Blk.mk false (List.replicate ((s1.len:Int):Int).toNat [.int .i64 0]).flatten)]).length) 0,.ptr H4.length 0]]).bind fun H5=>(ldF H5 H4.length 0).bind fun q6=>bif okF Go.Proofs.Try.prog q6.1 && ([.int .i64 0] ++ q6.2:List AV).all AV.glob then (rec q6.1 ([.int .i64 0] ++ q6.2) H5).bind fun r7=>(ldS 1 r7.2 ((H ++ [some (Blk.mk false [.int .i64 a0_0,.sl 1 a0_1,.int .i64 a0_2])] ++ [some (Blk.mk false [.sl 1 a1])] ++ [some (Blk.mk false (List.replicate ((s1.len:Int):Int).toNat [.int .i64 0]).flatten)]).length) 0).bind fun s8=>some (.sl 1 s8,r7.2) else none else none else none
theorem f_eq (rec:Rec) (k:Nat):∀ a0_0 a0_1 a0_2 a1 H,f rec k a0_0 a0_1 a0_2 a1 H=ex PP (orc impl_ruleMasks.id) rec k body (St.of 18 [(0,.agg [.int .i64 a0_0,.sl 1 a0_1,.int .i64 a0_2]),(1,.sl 1 a1)] []) H (K0 PP Go.Proofs.Try.f98):=by
 intros a0_0 a0_1 a0_2 a1 H
 unfold f
 kernel_rfl
theorem call (k:Nat):∀ a0_0 a0_1 a0_2 a1 H,callF PP orc (k + 1) impl_ruleMasks.id [.agg [.int .i64 a0_0,.sl 1 a0_1,.int .i64 a0_2],.sl 1 a1] H=f (callF PP orc k) k a0_0 a0_1 a0_2 a1 H:=by
 intros a0_0 a0_1 a0_2 a1 H
 rw [callF_at (fn:=Go.Proofs.Try.f98) (c:=body) Go.Proofs.Try.func98 (by kernel_rfl) (Nat.le_of_ble_eq_true (by kernel_rfl)),f_eq]
 kernel_rfl
end impl_ruleMasks
namespace impl_ruleMasks_1
noncomputable def body:Code:=(Go.Proofs.Try.f118).body.getD .skip
abbrev o:=orc impl_ruleMasks_1.id
noncomputable def l0 (rec:Rec) (k:Nat):Nat→Nat→Nat→Sl→Int→Int→Hp→An
 | 0,_,_,_,_,_,_=>none
 | n + 1,x4b,x4o,x17,x18,x19,H=>bif decide (x19 < x18) then bif decide (0 ≤ (x19:Int)) && decide ((x19:Int) < x17.len) then (ldI .i64 H x17.blk (x17.off + (x19:Int).toNat * 1)).bind fun n9=>(ldS 1 H x4b x4o).bind fun s10=>bif decide (0 ≤ (x19:Int)) && decide ((x19:Int) < s10.len) then (ldI .i64 H s10.blk (s10.off + (x19:Int).toNat * 1)).bind fun n11=>if (n9:Int) < 0 then none else bif decide (0 ≤ (x19:Int)) && decide ((x19:Int) < s10.len) then (H.sto s10.blk (s10.off + (x19:Int).toNat * 1) [.int .i64 (IntKind.i64.wrap (((BitVec.ofInt IntKind.i64.bits n11 ||| BitVec.ofInt IntKind.i64.bits (IntKind.i64.wrap (1 * 2 ^ (min (n9:Int).toNat IntKind.i64.bits)))).toNat:Int)))]).bind fun H12=>(l0 rec k n) x4b x4o x17 x18 (IntKind.i64.wrap (x19 + 1)) H12 else none else none else none else some (.tup [],H)
noncomputable def j2 (rec:Rec) (k:Nat) (L1:Int→Nat→Nat→Nat→Nat→Nat→Nat→Int→Hp→An) (x0:Int) (x1b:Nat) (x1o:Nat) (x3b:Nat) (x3o:Nat) (x5b:Nat) (x5o:Nat) (x9:Int) (H:Hp):An:=L1 x0 x1b x1o x3b x3o x5b x5o (IntKind.i64.wrap (x9 + 1)) H
noncomputable def l1 (rec:Rec) (k:Nat):Nat→Int→Nat→Nat→Nat→Nat→Nat→Nat→Int→Hp→An
 | 0,_,_,_,_,_,_,_,_,_=>none
 | n + 1,x0,x1b,x1o,x3b,x3o,x5b,x5o,x9,H=>bif decide (x9 ≤ 4) then (ldS 1 H x1b x1o).bind fun s13=>bif decide (0 ≤ (x0:Int)) && decide ((x0:Int) < s13.len) then (ldI .i64 H s13.blk (s13.off + (x0:Int).toNat * 1)).bind fun n14=>if (x9:Int) < 0 then none else bif (IntKind.i64.wrap (((BitVec.ofInt IntKind.i64.bits ((n14:Int).fdiv (2 ^ (min (x9:Int).toNat IntKind.i64.bits))) &&& BitVec.ofInt IntKind.i64.bits 1).toNat:Int))) == 1 then (ldS 1 H x3b x3o).bind fun s15=>bif decide (0 ≤ (x0:Int)) && decide ((x0:Int) < s15.len) then (H.sto s15.blk (s15.off + (x0:Int).toNat * 1) [.int .i64 x9]).bind fun H16=>(ldF H16 x5b x5o).bind fun q17=>bif okF Go.Proofs.Try.prog q17.1 && ([.int .i64 (IntKind.i64.wrap (x0 + 1))] ++ q17.2:List AV).all AV.glob then (rec q17.1 ([.int .i64 (IntKind.i64.wrap (x0 + 1))] ++ q17.2) H16).bind fun r18=>j2 rec k (l1 rec k n) x0 x1b x1o x3b x3o x5b x5o x9 r18.2 else none else none else j2 rec k (l1 rec k n) x0 x1b x1o x3b x3o x5b x5o x9 H else none else some (.tup [],H)
noncomputable def f (rec:Rec) (k:Nat) (a0:Int) (c0b:Nat) (c0o:Nat) (c1b:Nat) (c1o:Nat) (c2b:Nat) (c2o:Nat) (c3b:Nat) (c3o:Nat) (c4b:Nat) (c4o:Nat) (H:Hp):An:=(ldS 1 H c0b c0o).bind fun s1=>bif a0 == (s1.len:Int) then (ldI .i64 H c1b c1o).bind fun n2=>(ldS 1 H c1b (c1o + 1)).bind fun s3=>(ldI .i64 H c1b (c1o + 1 + 1)).bind fun n4=>(ldS 1 H c2b c2o).bind fun s5=>(rec impl_valuesHold.id [.agg [.int .i64 n2,.sl 1 s3,.int .i64 n4],.sl 1 s5] H).bind fun r6=>r6.1.toB.bind fun b7=>bif b7 then (ldS 1 r6.2 c2b c2o).bind fun s8=>l0 rec k k c3b c3o s8 (s8.len:Int) 0 r6.2 else some (.tup [],r6.2) else l1 rec k k a0 c0b c0o c2b c2o c4b c4o 1 H
theorem l0_eq (rec:Rec) (k:Nat):∀ n x4b x4o x17 x18 x19 H,l0 rec k n x4b x4o x17 x18 x19 H=iter (o.at (lbody (sub body [0,1,0,0,1,0,1,0]))) (ex PP o rec k (lbody (sub body [0,1,0,0,1,0,1,0]))) (kAt PP o rec k body [0,1,0,0,1,0,1,0] [] (K0 PP Go.Proofs.Try.f118)) n (St.of 53 [(4,.ptr x4b x4o),(17,.sl 1 x17),(18,.int .i64 x18),(19,.int .i64 x19)] []) H:=by
 intro n
 induction n with
 | zero=>intros; rfl
 | succ n ih=>
  intros x4b x4o x17 x18 x19 H
  simp only [l0,ih,-eq_self]
  kernel_rfl
theorem j2_eq (rec:Rec) (k:Nat) (n1:Nat) (L1:Int→Nat→Nat→Nat→Nat→Nat→Nat→Int→Hp→An) (hL1:∀ x0 x1b x1o x3b x3o x5b x5o x9 H,L1 x0 x1b x1o x3b x3o x5b x5o x9 H=iter (o.at (lbody (sub body [1,1,0]))) (ex PP o rec k (lbody (sub body [1,1,0]))) (kAt PP o rec k body [1,1,0] [] (K0 PP Go.Proofs.Try.f118)) n1 (St.of 53 [(0,.int .i64 x0),(1,.ptr x1b x1o),(3,.ptr x3b x3o),(5,.ptr x5b x5o),(9,.int .i64 x9)] []) H):∀ x0 x1b x1o x3b x3o x5b x5o x9 H,j2 rec k L1 x0 x1b x1o x3b x3o x5b x5o x9 H=ex PP o rec k (sub body [1,1,0,0,1,1]) (St.of 53 [(0,.int .i64 x0),(1,.ptr x1b x1o),(3,.ptr x3b x3o),(5,.ptr x5b x5o),(9,.int .i64 x9)] []) H (kAt PP o rec k body [1,1,0,0,1,1] [n1] (K0 PP Go.Proofs.Try.f118)):=by
 intros x0 x1b x1o x3b x3o x5b x5o x9 H
 unfold j2
 try simp only [hL1,-eq_self]
 kernel_rfl
theorem l1_eq (rec:Rec) (k:Nat):∀ n x0 x1b x1o x3b x3o x5b x5o x9 H,l1 rec k n x0 x1b x1o x3b x3o x5b x5o x9 H=iter (o.at (lbody (sub body [1,1,0]))) (ex PP o rec k (lbody (sub body [1,1,0]))) (kAt PP o rec k body [1,1,0] [] (K0 PP Go.Proofs.Try.f118)) n (St.of 53 [(0,.int .i64 x0),(1,.ptr x1b x1o),(3,.ptr x3b x3o),(5,.ptr x5b x5o),(9,.int .i64 x9)] []) H:=by
 intro n
 induction n with
 | zero=>intros; rfl
 | succ n ih=>
  intros x0 x1b x1o x3b x3o x5b x5o x9 H
  simp only [l1,j2_eq rec k n (l1 rec k n) (fun x0 x1b x1o x3b x3o x5b x5o x9 H=>ih x0 x1b x1o x3b x3o x5b x5o x9 H),ih,-eq_self]
  kernel_rfl
theorem f_eq (rec:Rec) (k:Nat):∀ a0 c0b c0o c1b c1o c2b c2o c3b c3o c4b c4o H,f rec k a0 c0b c0o c1b c1o c2b c2o c3b c3o c4b c4o H=ex PP o rec k body (St.of 53 [(0,.int .i64 a0),(1,.ptr c0b c0o),(2,.ptr c1b c1o),(3,.ptr c2b c2o),(4,.ptr c3b c3o),(5,.ptr c4b c4o)] []) H (K0 PP Go.Proofs.Try.f118):=by
 intros a0 c0b c0o c1b c1o c2b c2o c3b c3o c4b c4o H
 unfold f
 try simp only [l0_eq rec k,l1_eq rec k,-eq_self]
 kernel_rfl
theorem call (k:Nat):∀ a0 c0b c0o c1b c1o c2b c2o c3b c3o c4b c4o H,callF PP orc (k + 1) impl_ruleMasks_1.id [.int .i64 a0,.ptr c0b c0o,.ptr c1b c1o,.ptr c2b c2o,.ptr c3b c3o,.ptr c4b c4o] H=f (callF PP orc k) k a0 c0b c0o c1b c1o c2b c2o c3b c3o c4b c4o H:=by
 intros a0 c0b c0o c1b c1o c2b c2o c3b c3o c4b c4o H
 rw [callF_at (fn:=Go.Proofs.Try.f118) (c:=body) Go.Proofs.Try.func118 (by kernel_rfl) (Nat.le_of_ble_eq_true (by kernel_rfl)),f_eq]
 kernel_rfl
end impl_ruleMasks_1
namespace impl_MasksValid
noncomputable def body:Code:=(Go.Proofs.Try.f64).body.getD .skip
abbrev o:=orc impl_MasksValid.id
abbrev TL2:=Int→Sl→Int→Int→Hp→An
abbrev PhL2 (rec:Rec) (k n2:Nat) (L2:TL2):Prop:=∀ x1 x18 x19 x20 H,L2 x1 x18 x19 x20 H=iter (o.at (lbody (sub body [1,1,0,1,0]))) (ex PP o rec k (lbody (sub body [1,1,0,1,0]))) (kAt PP o rec k body [1,1,0,1,0] [] (K0 PP Go.Proofs.Try.f64)) n2 (St.of 34 [(1,.int .i64 x1),(18,.sl 1 x18),(19,.int .i64 x19),(20,.int .i64 x20)] []) H
noncomputable def j4 (rec:Rec) (k:Nat) (L2:TL2) (x1:Int) (x18:Sl) (x19:Int) (x20:Int) (H:Hp):An:=L2 x1 x18 x19 (IntKind.i64.wrap (x20 + 1)) H
noncomputable def j3 (rec:Rec) (k:Nat) (L2:TL2) (x1:Int) (x18:Sl) (x19:Int) (x20:Int) (x32:Bool) (H:Hp):An:=bif x32 then some (.bool false,H) else j4 rec k L2 x1 x18 x19 x20 H
noncomputable def l2 (rec:Rec) (k:Nat):Nat→Int→Sl→Int→Int→Hp→An
 | 0,_,_,_,_,_=>none
 | n + 1,x1,x18,x19,x20,H=>bif decide (x20 < x19) then bif decide (0 ≤ (x20:Int)) && decide ((x20:Int) < x18.len) then (ldI .i64 H x18.blk (x18.off + (x20:Int).toNat * 1)).bind fun n3=>bif decide (n3 < 0) then j3 rec k (l2 rec k n) x1 x18 x19 x20 true H else (rec impl_allValues.id [.int .i64 x1] H).bind fun r4=>(r4.1.toI .i64).bind fun n5=>j3 rec k (l2 rec k n) x1 x18 x19 x20 ((IntKind.i64.wrap (((BitVec.ofInt IntKind.i64.bits n3 &&& ~~~ (BitVec.ofInt IntKind.i64.bits n5)).toNat:Int))) != 0) r4.2 else none else some (.bool true,H)
noncomputable def j1 (rec:Rec) (k:Nat) (x0:Sl) (x1:Int) (H:Hp):An:=l2 rec k k x1 x0 (x0.len:Int) 0 H
noncomputable def j0 (rec:Rec) (k:Nat) (x0:Sl) (x1:Int) (x17:Bool) (H:Hp):An:=bif x17 then some (.bool false,H) else j1 rec k x0 x1 H
noncomputable def f (rec:Rec) (k:Nat) (a0:Sl) (a1:Int) (H:Hp):An:=(rec impl_sizeOk.id [.int .i64 a1] H).bind fun r1=>r1.1.toB.bind fun b2=>bif !b2 then j0 rec k a0 a1 true r1.2 else j0 rec k a0 a1 ((a0.len:Int) != (IntKind.i64.wrap (a1 * a1))) r1.2
theorem j4_eq (rec:Rec) (k:Nat) (n2:Nat) (L2:TL2) (hL2:PhL2 rec k n2 L2):∀ x1 x18 x19 x20 H,j4 rec k L2 x1 x18 x19 x20 H=ex PP o rec k (sub body [1,1,0,1,0,0,1,1,1]) (St.of 34 [(1,.int .i64 x1),(18,.sl 1 x18),(19,.int .i64 x19),(20,.int .i64 x20)] []) H (kAt PP o rec k body [1,1,0,1,0,0,1,1,1] [n2] (K0 PP Go.Proofs.Try.f64)):=by
 intros x1 x18 x19 x20 H
 unfold j4
 try simp only [hL2,-eq_self]
 kernel_rfl
theorem j3_eq (rec:Rec) (k:Nat) (n2:Nat) (L2:TL2) (hL2:PhL2 rec k n2 L2):∀ x1 x18 x19 x20 x32 H,j3 rec k L2 x1 x18 x19 x20 x32 H=ex PP o rec k (sub body [1,1,0,1,0,0,1,1,0,0,1,1]) (St.of 34 [(1,.int .i64 x1),(18,.sl 1 x18),(19,.int .i64 x19),(20,.int .i64 x20),(32,.bool x32)] []) H (kAt PP o rec k body [1,1,0,1,0,0,1,1,0,0,1,1] [n2] (K0 PP Go.Proofs.Try.f64)):=by
 intros x1 x18 x19 x20 x32 H
 unfold j3
 try simp only [hL2,j4_eq rec k n2 L2 hL2,-eq_self]
 kernel_rfl
theorem l2_eq (rec:Rec) (k:Nat):∀ n x1 x18 x19 x20 H,l2 rec k n x1 x18 x19 x20 H=iter (o.at (lbody (sub body [1,1,0,1,0]))) (ex PP o rec k (lbody (sub body [1,1,0,1,0]))) (kAt PP o rec k body [1,1,0,1,0] [] (K0 PP Go.Proofs.Try.f64)) n (St.of 34 [(1,.int .i64 x1),(18,.sl 1 x18),(19,.int .i64 x19),(20,.int .i64 x20)] []) H:=by
 intro n
 induction n with
 | zero=>intros; rfl
 | succ n ih=>
  intros x1 x18 x19 x20 H
  simp only [l2,j3_eq rec k n (l2 rec k n) (fun x1 x18 x19 x20 H=>ih x1 x18 x19 x20 H),ih,-eq_self]
  kernel_rfl
theorem j1_eq (rec:Rec) (k:Nat):∀ x0 x1 H,j1 rec k x0 x1 H=ex PP o rec k (sub body [1,1]) (St.of 34 [(0,.sl 1 x0),(1,.int .i64 x1)] []) H (kAt PP o rec k body [1,1] [] (K0 PP Go.Proofs.Try.f64)):=by
 intros x0 x1 H
 unfold j1
 try simp only [l2_eq rec k,-eq_self]
 kernel_rfl
theorem j0_eq (rec:Rec) (k:Nat):∀ x0 x1 x17 H,j0 rec k x0 x1 x17 H=ex PP o rec k (sub body [1,0,1]) (St.of 34 [(0,.sl 1 x0),(1,.int .i64 x1),(17,.bool x17)] []) H (kAt PP o rec k body [1,0,1] [] (K0 PP Go.Proofs.Try.f64)):=by
 intros x0 x1 x17 H
 unfold j0
 try simp only [j1_eq rec k,-eq_self]
 kernel_rfl
theorem f_eq (rec:Rec) (k:Nat):∀ a0 a1 H,f rec k a0 a1 H=ex PP o rec k body (St.of 34 [(0,.sl 1 a0),(1,.int .i64 a1)] []) H (K0 PP Go.Proofs.Try.f64):=by
 intros a0 a1 H
 unfold f
 try simp only [j0_eq rec k,-eq_self]
 kernel_rfl
theorem call (k:Nat):∀ a0 a1 H,callF PP orc (k + 1) impl_MasksValid.id [.sl 1 a0,.int .i64 a1] H=f (callF PP orc k) k a0 a1 H:=by
 intros a0 a1 H
 rw [callF_at (fn:=Go.Proofs.Try.f64) (c:=body) Go.Proofs.Try.func64 (by kernel_rfl) (Nat.le_of_ble_eq_true (by kernel_rfl)),f_eq]
 kernel_rfl
end impl_MasksValid
namespace slices_Equal_int
noncomputable def body:Code:=(Go.Proofs.Try.f100).body.getD .skip
abbrev o:=orc slices_Equal_int.id
noncomputable def l0 (rec:Rec) (k:Nat):Nat→Sl→Sl→Int→Int→Hp→An
 | 0,_,_,_,_,_=>none
 | n + 1,x0,x1,x12,x13,H=>bif decide (x13 < x12) then bif decide (0 ≤ (x13:Int)) && decide ((x13:Int) < x0.len) then (ldI .i64 H x0.blk (x0.off + (x13:Int).toNat * 1)).bind fun n1=>bif decide (0 ≤ (x13:Int)) && decide ((x13:Int) < x1.len) then (ldI .i64 H x1.blk (x1.off + (x13:Int).toNat * 1)).bind fun n2=>bif n1 != n2 then some (.bool false,H) else (l0 rec k n) x0 x1 x12 (IntKind.i64.wrap (x13 + 1)) H else none else none else some (.bool true,H)
noncomputable def f (rec:Rec) (k:Nat) (a0:Sl) (a1:Sl) (H:Hp):An:=bif (a0.len:Int) != (a1.len:Int) then some (.bool false,H) else l0 rec k k a0 a1 (a0.len:Int) 0 H
theorem l0_eq (rec:Rec) (k:Nat):∀ n x0 x1 x12 x13 H,l0 rec k n x0 x1 x12 x13 H=iter (o.at (lbody (sub body [1,1,0,1,0]))) (ex PP o rec k (lbody (sub body [1,1,0,1,0]))) (kAt PP o rec k body [1,1,0,1,0] [] (K0 PP Go.Proofs.Try.f100)) n (St.of 26 [(0,.sl 1 x0),(1,.sl 1 x1),(12,.int .i64 x12),(13,.int .i64 x13)] []) H:=by
 intro n
 induction n with
 | zero=>intros; rfl
 | succ n ih=>
  intros x0 x1 x12 x13 H
  simp only [l0,ih,-eq_self]
  kernel_rfl
theorem f_eq (rec:Rec) (k:Nat):∀ a0 a1 H,f rec k a0 a1 H=ex PP o rec k body (St.of 26 [(0,.sl 1 a0),(1,.sl 1 a1)] []) H (K0 PP Go.Proofs.Try.f100):=by
 intros a0 a1 H
 unfold f
 try simp only [l0_eq rec k,-eq_self]
 kernel_rfl
theorem call (k:Nat):∀ a0 a1 H,callF PP orc (k + 1) slices_Equal_int.id [.sl 1 a0,.sl 1 a1] H=f (callF PP orc k) k a0 a1 H:=by
 intros a0 a1 H
 rw [callF_at (fn:=Go.Proofs.Try.f100) (c:=body) Go.Proofs.Try.func100 (by kernel_rfl) (Nat.le_of_ble_eq_true (by kernel_rfl)),f_eq]
 kernel_rfl
end slices_Equal_int
namespace math_bits_OnesCount
noncomputable def body:Code:=(Go.Proofs.Try.f78).body.getD .skip
noncomputable def f (rec:Rec) (k:Nat) (a0:Int) (H:Hp):An:=(rec math_bits_OnesCount64.id [.int .u64 a0] H).bind fun r1=>(r1.1.toI .i64).bind fun n2=>some (.int .i64 n2,r1.2)
theorem f_eq (rec:Rec) (k:Nat):∀ a0 H,f rec k a0 H=ex PP (orc math_bits_OnesCount.id) rec k body (St.of 8 [(0,.int .u64 a0)] []) H (K0 PP Go.Proofs.Try.f78):=by
 intros a0 H
 unfold f
 kernel_rfl
theorem call (k:Nat):∀ a0 H,callF PP orc (k + 1) math_bits_OnesCount.id [.int .u64 a0] H=f (callF PP orc k) k a0 H:=by
 intros a0 H
 rw [callF_at (fn:=Go.Proofs.Try.f78) (c:=body) Go.Proofs.Try.func78 (by kernel_rfl) (Nat.le_of_ble_eq_true (by kernel_rfl)),f_eq]
 kernel_rfl
end math_bits_OnesCount
namespace math_bits_OnesCount64
noncomputable def body:Code:=(Go.Proofs.Try.f106).body.getD .skip
noncomputable def f (rec:Rec) (k:Nat) (a0:Int) (H:Hp):An:=some (.int .i64 (IntKind.i64.wrap (((BitVec.ofInt IntKind.i64.bits (IntKind.i64.wrap (IntKind.u64.wrap ((IntKind.u64.wrap ((IntKind.u64.wrap ((IntKind.u64.wrap (((BitVec.ofInt IntKind.u64.bits (IntKind.u64.wrap (((IntKind.u64.wrap ((IntKind.u64.wrap (((BitVec.ofInt IntKind.u64.bits ((IntKind.u64.wrap ((IntKind.u64.wrap (((BitVec.ofInt IntKind.u64.bits ((a0:Int).fdiv (2 ^ (min (1:Int).toNat IntKind.u64.bits))) &&& BitVec.ofInt IntKind.u64.bits 6148914691236517205).toNat:Int))) + (IntKind.u64.wrap (((BitVec.ofInt IntKind.u64.bits a0 &&& BitVec.ofInt IntKind.u64.bits 6148914691236517205).toNat:Int)))):Int).fdiv (2 ^ (min (2:Int).toNat IntKind.u64.bits))) &&& BitVec.ofInt IntKind.u64.bits 3689348814741910323).toNat:Int))) + (IntKind.u64.wrap (((BitVec.ofInt IntKind.u64.bits (IntKind.u64.wrap ((IntKind.u64.wrap (((BitVec.ofInt IntKind.u64.bits ((a0:Int).fdiv (2 ^ (min (1:Int).toNat IntKind.u64.bits))) &&& BitVec.ofInt IntKind.u64.bits 6148914691236517205).toNat:Int))) + (IntKind.u64.wrap (((BitVec.ofInt IntKind.u64.bits a0 &&& BitVec.ofInt IntKind.u64.bits 6148914691236517205).toNat:Int))))) &&& BitVec.ofInt IntKind.u64.bits 3689348814741910323).toNat:Int)))):Int).fdiv (2 ^ (min (4:Int).toNat IntKind.u64.bits))) + (IntKind.u64.wrap ((IntKind.u64.wrap (((BitVec.ofInt IntKind.u64.bits ((IntKind.u64.wrap ((IntKind.u64.wrap (((BitVec.ofInt IntKind.u64.bits ((a0:Int).fdiv (2 ^ (min (1:Int).toNat IntKind.u64.bits))) &&& BitVec.ofInt IntKind.u64.bits 6148914691236517205).toNat:Int))) + (IntKind.u64.wrap (((BitVec.ofInt IntKind.u64.bits a0 &&& BitVec.ofInt IntKind.u64.bits 6148914691236517205).toNat:Int)))):Int).fdiv (2 ^ (min (2:Int).toNat IntKind.u64.bits))) &&& BitVec.ofInt IntKind.u64.bits 3689348814741910323).toNat:Int))) + (IntKind.u64.wrap (((BitVec.ofInt IntKind.u64.bits (IntKind.u64.wrap ((IntKind.u64.wrap (((BitVec.ofInt IntKind.u64.bits ((a0:Int).fdiv (2 ^ (min (1:Int).toNat IntKind.u64.bits))) &&& BitVec.ofInt IntKind.u64.bits 6148914691236517205).toNat:Int))) + (IntKind.u64.wrap (((BitVec.ofInt IntKind.u64.bits a0 &&& BitVec.ofInt IntKind.u64.bits 6148914691236517205).toNat:Int))))) &&& BitVec.ofInt IntKind.u64.bits 3689348814741910323).toNat:Int))))))) &&& BitVec.ofInt IntKind.u64.bits 1085102592571150095).toNat:Int))) + ((IntKind.u64.wrap (((BitVec.ofInt IntKind.u64.bits (IntKind.u64.wrap (((IntKind.u64.wrap ((IntKind.u64.wrap (((BitVec.ofInt IntKind.u64.bits ((IntKind.u64.wrap ((IntKind.u64.wrap (((BitVec.ofInt IntKind.u64.bits ((a0:Int).fdiv (2 ^ (min (1:Int).toNat IntKind.u64.bits))) &&& BitVec.ofInt IntKind.u64.bits 6148914691236517205).toNat:Int))) + (IntKind.u64.wrap (((BitVec.ofInt IntKind.u64.bits a0 &&& BitVec.ofInt IntKind.u64.bits 6148914691236517205).toNat:Int)))):Int).fdiv (2 ^ (min (2:Int).toNat IntKind.u64.bits))) &&& BitVec.ofInt IntKind.u64.bits 3689348814741910323).toNat:Int))) + (IntKind.u64.wrap (((BitVec.ofInt IntKind.u64.bits (IntKind.u64.wrap ((IntKind.u64.wrap (((BitVec.ofInt IntKind.u64.bits ((a0:Int).fdiv (2 ^ (min (1:Int).toNat IntKind.u64.bits))) &&& BitVec.ofInt IntKind.u64.bits 6148914691236517205).toNat:Int))) + (IntKind.u64.wrap (((BitVec.ofInt IntKind.u64.bits a0 &&& BitVec.ofInt IntKind.u64.bits 6148914691236517205).toNat:Int))))) &&& BitVec.ofInt IntKind.u64.bits 3689348814741910323).toNat:Int)))):Int).fdiv (2 ^ (min (4:Int).toNat IntKind.u64.bits))) + (IntKind.u64.wrap ((IntKind.u64.wrap (((BitVec.ofInt IntKind.u64.bits ((IntKind.u64.wrap ((IntKind.u64.wrap (((BitVec.ofInt IntKind.u64.bits ((a0:Int).fdiv (2 ^ (min (1:Int).toNat IntKind.u64.bits))) &&& BitVec.ofInt IntKind.u64.bits 6148914691236517205).toNat:Int))) + (IntKind.u64.wrap (((BitVec.ofInt IntKind.u64.bits a0 &&& BitVec.ofInt IntKind.u64.bits 6148914691236517205).toNat:Int)))):Int).fdiv (2 ^ (min (2:Int).toNat IntKind.u64.bits))) &&& BitVec.ofInt IntKind.u64.bits 3689348814741910323).toNat:Int))) + (IntKind.u64.wrap (((BitVec.ofInt IntKind.u64.bits (IntKind.u64.wrap ((IntKind.u64.wrap (((BitVec.ofInt IntKind.u64.bits ((a0:Int).fdiv (2 ^ (min (1:Int).toNat IntKind.u64.bits))) &&& BitVec.ofInt IntKind.u64.bits 6148914691236517205).toNat:Int))) + (IntKind.u64.wrap (((BitVec.ofInt IntKind.u64.bits a0 &&& BitVec.ofInt IntKind.u64.bits 6148914691236517205).toNat:Int))))) &&& BitVec.ofInt IntKind.u64.bits 3689348814741910323).toNat:Int))))))) &&& BitVec.ofInt IntKind.u64.bits 1085102592571150095).toNat:Int)):Int).fdiv (2 ^ (min (8:Int).toNat IntKind.u64.bits))))) + ((IntKind.u64.wrap ((IntKind.u64.wrap (((BitVec.ofInt IntKind.u64.bits (IntKind.u64.wrap (((IntKind.u64.wrap ((IntKind.u64.wrap (((BitVec.ofInt IntKind.u64.bits ((IntKind.u64.wrap ((IntKind.u64.wrap (((BitVec.ofInt IntKind.u64.bits ((a0:Int).fdiv (2 ^ (min (1:Int).toNat IntKind.u64.bits))) &&& BitVec.ofInt IntKind.u64.bits 6148914691236517205).toNat:Int))) + (IntKind.u64.wrap (((BitVec.ofInt IntKind.u64.bits a0 &&& BitVec.ofInt IntKind.u64.bits 6148914691236517205).toNat:Int)))):Int).fdiv (2 ^ (min (2:Int).toNat IntKind.u64.bits))) &&& BitVec.ofInt IntKind.u64.bits 3689348814741910323).toNat:Int))) + (IntKind.u64.wrap (((BitVec.ofInt IntKind.u64.bits (IntKind.u64.wrap ((IntKind.u64.wrap (((BitVec.ofInt IntKind.u64.bits ((a0:Int).fdiv (2 ^ (min (1:Int).toNat IntKind.u64.bits))) &&& BitVec.ofInt IntKind.u64.bits 6148914691236517205).toNat:Int))) + (IntKind.u64.wrap (((BitVec.ofInt IntKind.u64.bits a0 &&& BitVec.ofInt IntKind.u64.bits 6148914691236517205).toNat:Int))))) &&& BitVec.ofInt IntKind.u64.bits 3689348814741910323).toNat:Int)))):Int).fdiv (2 ^ (min (4:Int).toNat IntKind.u64.bits))) + (IntKind.u64.wrap ((IntKind.u64.wrap (((BitVec.ofInt IntKind.u64.bits ((IntKind.u64.wrap ((IntKind.u64.wrap (((BitVec.ofInt IntKind.u64.bits ((a0:Int).fdiv (2 ^ (min (1:Int).toNat IntKind.u64.bits))) &&& BitVec.ofInt IntKind.u64.bits 6148914691236517205).toNat:Int))) + (IntKind.u64.wrap (((BitVec.ofInt IntKind.u64.bits a0 &&& BitVec.ofInt IntKind.u64.bits 6148914691236517205).toNat:Int)))):Int).fdiv (2 ^ (min (2:Int).toNat IntKind.u64.bits))) &&& BitVec.ofInt IntKind.u64.bits 3689348814741910323).toNat:Int))) + (IntKind.u64.wrap (((BitVec.ofInt IntKind.u64.bits (IntKind.u64.wrap ((IntKind.u64.wrap (((BitVec.ofInt IntKind.u64.bits ((a0:Int).fdiv (2 ^ (min (1:Int).toNat IntKind.u64.bits))) &&& BitVec.ofInt IntKind.u64.bits 6148914691236517205).toNat:Int))) + (IntKind.u64.wrap (((BitVec.ofInt IntKind.u64.bits a0 &&& BitVec.ofInt IntKind.u64.bits 6148914691236517205).toNat:Int))))) &&& BitVec.ofInt IntKind.u64.bits 3689348814741910323).toNat:Int))))))) &&& BitVec.ofInt IntKind.u64.bits 1085102592571150095).toNat:Int))) + ((IntKind.u64.wrap (((BitVec.ofInt IntKind.u64.bits (IntKind.u64.wrap (((IntKind.u64.wrap ((IntKind.u64.wrap (((BitVec.ofInt IntKind.u64.bits ((IntKind.u64.wrap ((IntKind.u64.wrap (((BitVec.ofInt IntKind.u64.bits ((a0:Int).fdiv (2 ^ (min (1:Int).toNat IntKind.u64.bits))) &&& BitVec.ofInt IntKind.u64.bits 6148914691236517205).toNat:Int))) + (IntKind.u64.wrap (((BitVec.ofInt IntKind.u64.bits a0 &&& BitVec.ofInt IntKind.u64.bits 6148914691236517205).toNat:Int)))):Int).fdiv (2 ^ (min (2:Int).toNat IntKind.u64.bits))) &&& BitVec.ofInt IntKind.u64.bits 3689348814741910323).toNat:Int))) + (IntKind.u64.wrap (((BitVec.ofInt IntKind.u64.bits (IntKind.u64.wrap ((IntKind.u64.wrap (((BitVec.ofInt IntKind.u64.bits ((a0:Int).fdiv (2 ^ (min (1:Int).toNat IntKind.u64.bits))) &&& BitVec.ofInt IntKind.u64.bits 6148914691236517205).toNat:Int))) + (IntKind.u64.wrap (((BitVec.ofInt IntKind.u64.bits a0 &&& BitVec.ofInt IntKind.u64.bits 6148914691236517205).toNat:Int))))) &&& BitVec.ofInt IntKind.u64.bits 3689348814741910323).toNat:Int)))):Int).fdiv (2 ^ (min (4:Int).toNat IntKind.u64.bits))) + (IntKind.u64.wrap ((IntKind.u64.wrap (((BitVec.ofInt IntKind.u64.bits ((IntKind.u64.wrap ((IntKind.u64.wrap (((BitVec.ofInt IntKind.u64.bits ((a0:Int).fdiv (2 ^ (min (1:Int).toNat IntKind.u64.bits))) &&& BitVec.ofInt IntKind.u64.bits 6148914691236517205).toNat:Int))) + (IntKind.u64.wrap (((BitVec.ofInt IntKind.u64.bits a0 &&& BitVec.ofInt IntKind.u64.bits 6148914691236517205).toNat:Int)))):Int).fdiv (2 ^ (min (2:Int).toNat IntKind.u64.bits))) &&& BitVec.ofInt IntKind.u64.bits 3689348814741910323).toNat:Int))) + (IntKind.u64.wrap (((BitVec.ofInt IntKind.u64.bits (IntKind.u64.wrap ((IntKind.u64.wrap (((BitVec.ofInt IntKind.u64.bits ((a0:Int).fdiv (2 ^ (min (1:Int).toNat IntKind.u64.bits))) &&& BitVec.ofInt IntKind.u64.bits 6148914691236517205).toNat:Int))) + (IntKind.u64.wrap (((BitVec.ofInt IntKind.u64.bits a0 &&& BitVec.ofInt IntKind.u64.bits 6148914691236517205).toNat:Int))))) &&& BitVec.ofInt IntKind.u64.bits 3689348814741910323).toNat:Int))))))) &&& BitVec.ofInt IntKind.u64.bits 1085102592571150095).toNat:Int)):Int).fdiv (2 ^ (min (8:Int).toNat IntKind.u64.bits)))):Int).fdiv (2 ^ (min (16:Int).toNat IntKind.u64.bits))))) + ((IntKind.u64.wrap ((IntKind.u64.wrap ((IntKind.u64.wrap (((BitVec.ofInt IntKind.u64.bits (IntKind.u64.wrap (((IntKind.u64.wrap ((IntKind.u64.wrap (((BitVec.ofInt IntKind.u64.bits ((IntKind.u64.wrap ((IntKind.u64.wrap (((BitVec.ofInt IntKind.u64.bits ((a0:Int).fdiv (2 ^ (min (1:Int).toNat IntKind.u64.bits))) &&& BitVec.ofInt IntKind.u64.bits 6148914691236517205).toNat:Int))) + (IntKind.u64.wrap (((BitVec.ofInt IntKind.u64.bits a0 &&& BitVec.ofInt IntKind.u64.bits 6148914691236517205).toNat:Int)))):Int).fdiv (2 ^ (min (2:Int).toNat IntKind.u64.bits))) &&& BitVec.ofInt IntKind.u64.bits 3689348814741910323).toNat:Int))) + (IntKind.u64.wrap (((BitVec.ofInt IntKind.u64.bits (IntKind.u64.wrap ((IntKind.u64.wrap (((BitVec.ofInt IntKind.u64.bits ((a0:Int).fdiv (2 ^ (min (1:Int).toNat IntKind.u64.bits))) &&& BitVec.ofInt IntKind.u64.bits 6148914691236517205).toNat:Int))) + (IntKind.u64.wrap (((BitVec.ofInt IntKind.u64.bits a0 &&& BitVec.ofInt IntKind.u64.bits 6148914691236517205).toNat:Int))))) &&& BitVec.ofInt IntKind.u64.bits 3689348814741910323).toNat:Int)))):Int).fdiv (2 ^ (min (4:Int).toNat IntKind.u64.bits))) + (IntKind.u64.wrap ((IntKind.u64.wrap (((BitVec.ofInt IntKind.u64.bits ((IntKind.u64.wrap ((IntKind.u64.wrap (((BitVec.ofInt IntKind.u64.bits ((a0:Int).fdiv (2 ^ (min (1:Int).toNat IntKind.u64.bits))) &&& BitVec.ofInt IntKind.u64.bits 6148914691236517205).toNat:Int))) + (IntKind.u64.wrap (((BitVec.ofInt IntKind.u64.bits a0 &&& BitVec.ofInt IntKind.u64.bits 6148914691236517205).toNat:Int)))):Int).fdiv (2 ^ (min (2:Int).toNat IntKind.u64.bits))) &&& BitVec.ofInt IntKind.u64.bits 3689348814741910323).toNat:Int))) + (IntKind.u64.wrap (((BitVec.ofInt IntKind.u64.bits (IntKind.u64.wrap ((IntKind.u64.wrap (((BitVec.ofInt IntKind.u64.bits ((a0:Int).fdiv (2 ^ (min (1:Int).toNat IntKind.u64.bits))) &&& BitVec.ofInt IntKind.u64.bits 6148914691236517205).toNat:Int))) + (IntKind.u64.wrap (((BitVec.ofInt IntKind.u64.bits a0 &&& BitVec.ofInt IntKind.u64.bits 6148914691236517205).toNat:Int))))) &&& BitVec.ofInt IntKind.u64.bits 3689348814741910323).toNat:Int))))))) &&& BitVec.ofInt IntKind.u64.bits 1085102592571150095).toNat:Int))) + ((IntKind.u64.wrap (((BitVec.ofInt IntKind.u64.bits (IntKind.u64.wrap (((IntKind.u64.wrap ((IntKind.u64.wrap (((BitVec.ofInt IntKind.u64.bits ((IntKind.u64.wrap ((IntKind.u64.wrap (((BitVec.ofInt IntKind.u64.bits ((a0:Int).fdiv (2 ^ (min (1:Int).toNat IntKind.u64.bits))) &&& BitVec.ofInt IntKind.u64.bits 6148914691236517205).toNat:Int))) + (IntKind.u64.wrap (((BitVec.ofInt IntKind.u64.bits a0 &&& BitVec.ofInt IntKind.u64.bits 6148914691236517205).toNat:Int)))):Int).fdiv (2 ^ (min (2:Int).toNat IntKind.u64.bits))) &&& BitVec.ofInt IntKind.u64.bits 3689348814741910323).toNat:Int))) + (IntKind.u64.wrap (((BitVec.ofInt IntKind.u64.bits (IntKind.u64.wrap ((IntKind.u64.wrap (((BitVec.ofInt IntKind.u64.bits ((a0:Int).fdiv (2 ^ (min (1:Int).toNat IntKind.u64.bits))) &&& BitVec.ofInt IntKind.u64.bits 6148914691236517205).toNat:Int))) + (IntKind.u64.wrap (((BitVec.ofInt IntKind.u64.bits a0 &&& BitVec.ofInt IntKind.u64.bits 6148914691236517205).toNat:Int))))) &&& BitVec.ofInt IntKind.u64.bits 3689348814741910323).toNat:Int)))):Int).fdiv (2 ^ (min (4:Int).toNat IntKind.u64.bits))) + (IntKind.u64.wrap ((IntKind.u64.wrap (((BitVec.ofInt IntKind.u64.bits ((IntKind.u64.wrap ((IntKind.u64.wrap (((BitVec.ofInt IntKind.u64.bits ((a0:Int).fdiv (2 ^ (min (1:Int).toNat IntKind.u64.bits))) &&& BitVec.ofInt IntKind.u64.bits 6148914691236517205).toNat:Int))) + (IntKind.u64.wrap (((BitVec.ofInt IntKind.u64.bits a0 &&& BitVec.ofInt IntKind.u64.bits 6148914691236517205).toNat:Int)))):Int).fdiv (2 ^ (min (2:Int).toNat IntKind.u64.bits))) &&& BitVec.ofInt IntKind.u64.bits 3689348814741910323).toNat:Int))) + (IntKind.u64.wrap (((BitVec.ofInt IntKind.u64.bits (IntKind.u64.wrap ((IntKind.u64.wrap (((BitVec.ofInt IntKind.u64.bits ((a0:Int).fdiv (2 ^ (min (1:Int).toNat IntKind.u64.bits))) &&& BitVec.ofInt IntKind.u64.bits 6148914691236517205).toNat:Int))) + (IntKind.u64.wrap (((BitVec.ofInt IntKind.u64.bits a0 &&& BitVec.ofInt IntKind.u64.bits 6148914691236517205).toNat:Int))))) &&& BitVec.ofInt IntKind.u64.bits 3689348814741910323).toNat:Int))))))) &&& BitVec.ofInt IntKind.u64.bits 1085102592571150095).toNat:Int)):Int).fdiv (2 ^ (min (8:Int).toNat IntKind.u64.bits))))) + ((IntKind.u64.wrap ((IntKind.u64.wrap (((BitVec.ofInt IntKind.u64.bits (IntKind.u64.wrap (((IntKind.u64.wrap ((IntKind.u64.wrap (((BitVec.ofInt IntKind.u64.bits ((IntKind.u64.wrap ((IntKind.u64.wrap (((BitVec.ofInt IntKind.u64.bits ((a0:Int).fdiv (2 ^ (min (1:Int).toNat IntKind.u64.bits))) &&& BitVec.ofInt IntKind.u64.bits 6148914691236517205).toNat:Int))) + (IntKind.u64.wrap (((BitVec.ofInt IntKind.u64.bits a0 &&& BitVec.ofInt IntKind.u64.bits 6148914691236517205).toNat:Int)))):Int).fdiv (2 ^ (min (2:Int).toNat IntKind.u64.bits))) &&& BitVec.ofInt IntKind.u64.bits 3689348814741910323).toNat:Int))) + (IntKind.u64.wrap (((BitVec.ofInt IntKind.u64.bits (IntKind.u64.wrap ((IntKind.u64.wrap (((BitVec.ofInt IntKind.u64.bits ((a0:Int).fdiv (2 ^ (min (1:Int).toNat IntKind.u64.bits))) &&& BitVec.ofInt IntKind.u64.bits 6148914691236517205).toNat:Int))) + (IntKind.u64.wrap (((BitVec.ofInt IntKind.u64.bits a0 &&& BitVec.ofInt IntKind.u64.bits 6148914691236517205).toNat:Int))))) &&& BitVec.ofInt IntKind.u64.bits 3689348814741910323).toNat:Int)))):Int).fdiv (2 ^ (min (4:Int).toNat IntKind.u64.bits))) + (IntKind.u64.wrap ((IntKind.u64.wrap (((BitVec.ofInt IntKind.u64.bits ((IntKind.u64.wrap ((IntKind.u64.wrap (((BitVec.ofInt IntKind.u64.bits ((a0:Int).fdiv (2 ^ (min (1:Int).toNat IntKind.u64.bits))) &&& BitVec.ofInt IntKind.u64.bits 6148914691236517205).toNat:Int))) + (IntKind.u64.wrap (((BitVec.ofInt IntKind.u64.bits a0 &&& BitVec.ofInt IntKind.u64.bits 6148914691236517205).toNat:Int)))):Int).fdiv (2 ^ (min (2:Int).toNat IntKind.u64.bits))) &&& BitVec.ofInt IntKind.u64.bits 3689348814741910323).toNat:Int))) + (IntKind.u64.wrap (((BitVec.ofInt IntKind.u64.bits (IntKind.u64.wrap ((IntKind.u64.wrap (((BitVec.ofInt IntKind.u64.bits ((a0:Int).fdiv (2 ^ (min (1:Int).toNat IntKind.u64.bits))) &&& BitVec.ofInt IntKind.u64.bits 6148914691236517205).toNat:Int))) + (IntKind.u64.wrap (((BitVec.ofInt IntKind.u64.bits a0 &&& BitVec.ofInt IntKind.u64.bits 6148914691236517205).toNat:Int))))) &&& BitVec.ofInt IntKind.u64.bits 3689348814741910323).toNat:Int))))))) &&& BitVec.ofInt IntKind.u64.bits 1085102592571150095).toNat:Int))) + ((IntKind.u64.wrap (((BitVec.ofInt IntKind.u64.bits (IntKind.u64.wrap (((IntKind.u64.wrap ((IntKind.u64.wrap (((BitVec.ofInt IntKind.u64.bits ((IntKind.u64.wrap ((IntKind.u64.wrap (((BitVec.ofInt IntKind.u64.bits ((a0:Int).fdiv (2 ^ (min (1:Int).toNat IntKind.u64.bits))) &&& BitVec.ofInt IntKind.u64.bits 6148914691236517205).toNat:Int))) + (IntKind.u64.wrap (((BitVec.ofInt IntKind.u64.bits a0 &&& BitVec.ofInt IntKind.u64.bits 6148914691236517205).toNat:Int)))):Int).fdiv (2 ^ (min (2:Int).toNat IntKind.u64.bits))) &&& BitVec.ofInt IntKind.u64.bits 3689348814741910323).toNat:Int))) + (IntKind.u64.wrap (((BitVec.ofInt IntKind.u64.bits (IntKind.u64.wrap ((IntKind.u64.wrap (((BitVec.ofInt IntKind.u64.bits ((a0:Int).fdiv (2 ^ (min (1:Int).toNat IntKind.u64.bits))) &&& BitVec.ofInt IntKind.u64.bits 6148914691236517205).toNat:Int))) + (IntKind.u64.wrap (((BitVec.ofInt IntKind.u64.bits a0 &&& BitVec.ofInt IntKind.u64.bits 6148914691236517205).toNat:Int))))) &&& BitVec.ofInt IntKind.u64.bits 3689348814741910323).toNat:Int)))):Int).fdiv (2 ^ (min (4:Int).toNat IntKind.u64.bits))) + (IntKind.u64.wrap ((IntKind.u64.wrap (((BitVec.ofInt IntKind.u64.bits ((IntKind.u64.wrap ((IntKind.u64.wrap (((BitVec.ofInt IntKind.u64.bits ((a0:Int).fdiv (2 ^ (min (1:Int).toNat IntKind.u64.bits))) &&& BitVec.ofInt IntKind.u64.bits 6148914691236517205).toNat:Int))) + (IntKind.u64.wrap (((BitVec.ofInt IntKind.u64.bits a0 &&& BitVec.ofInt IntKind.u64.bits 6148914691236517205).toNat:Int)))):Int).fdiv (2 ^ (min (2:Int).toNat IntKind.u64.bits))) &&& BitVec.ofInt IntKind.u64.bits 3689348814741910323).toNat:Int))) + (IntKind.u64.wrap (((BitVec.ofInt IntKind.u64.bits (IntKind.u64.wrap ((IntKind.u64.wrap (((BitVec.ofInt IntKind.u64.bits ((a0:Int).fdiv (2 ^ (min (1:Int).toNat IntKind.u64.bits))) &&& BitVec.ofInt IntKind.u64.bits 6148914691236517205).toNat:Int))) + (IntKind.u64.wrap (((BitVec.ofInt IntKind.u64.bits a0 &&& BitVec.ofInt IntKind.u64.bits 6148914691236517205).toNat:Int))))) &&& BitVec.ofInt IntKind.u64.bits 3689348814741910323).toNat:Int))))))) &&& BitVec.ofInt IntKind.u64.bits 1085102592571150095).toNat:Int)):Int).fdiv (2 ^ (min (8:Int).toNat IntKind.u64.bits)))):Int).fdiv (2 ^ (min (16:Int).toNat IntKind.u64.bits)))):Int).fdiv (2 ^ (min (32:Int).toNat IntKind.u64.bits)))))) &&& BitVec.ofInt IntKind.i64.bits 127).toNat:Int))),H)
theorem f_eq (rec:Rec) (k:Nat):∀ a0 H,f rec k a0 H=ex PP (orc math_bits_OnesCount64.id) rec k body (St.of 35 [(0,.int .u64 a0)] []) H (K0 PP Go.Proofs.Try.f106):=by
 intros a0 H
 unfold f
 kernel_rfl
theorem call (k:Nat):∀ a0 H,callF PP orc (k + 1) math_bits_OnesCount64.id [.int .u64 a0] H=f (callF PP orc k) k a0 H:=by
 intros a0 H
 rw [callF_at (fn:=Go.Proofs.Try.f106) (c:=body) Go.Proofs.Try.func106 (by kernel_rfl) (Nat.le_of_ble_eq_true (by kernel_rfl)),f_eq]
 kernel_rfl
end math_bits_OnesCount64
namespace impl_onlyValue
noncomputable def body:Code:=(Go.Proofs.Try.f85).body.getD .skip
abbrev o:=orc impl_onlyValue.id
noncomputable def l0 (rec:Rec) (k:Nat):Nat→Int→Int→Hp→An
 | 0,_,_,_=>none
 | n + 1,x0,x3,H=>bif decide (x3 ≤ 4) then if (x3:Int) < 0 then none else bif x0 == (IntKind.i64.wrap (1 * 2 ^ (min (x3:Int).toNat IntKind.i64.bits))) then some (.int .i64 x3,H) else (l0 rec k n) x0 (IntKind.i64.wrap (x3 + 1)) H else some (.int .i64 0,H)
noncomputable def f (rec:Rec) (k:Nat) (a0:Int) (H:Hp):An:=l0 rec k k a0 1 H
theorem l0_eq (rec:Rec) (k:Nat):∀ n x0 x3 H,l0 rec k n x0 x3 H=iter (o.at (lbody (sub body [1,0,1,0]))) (ex PP o rec k (lbody (sub body [1,0,1,0]))) (kAt PP o rec k body [1,0,1,0] [] (K0 PP Go.Proofs.Try.f85)) n (St.of 13 [(0,.int .i64 x0),(3,.int .i64 x3)] []) H:=by
 intro n
 induction n with
 | zero=>intros; rfl
 | succ n ih=>
  intros x0 x3 H
  simp only [l0,ih,-eq_self]
  kernel_rfl
theorem f_eq (rec:Rec) (k:Nat):∀ a0 H,f rec k a0 H=ex PP o rec k body (St.of 13 [(0,.int .i64 a0)] []) H (K0 PP Go.Proofs.Try.f85):=by
 intros a0 H
 unfold f
 try simp only [l0_eq rec k,-eq_self]
 kernel_rfl
theorem call (k:Nat):∀ a0 H,callF PP orc (k + 1) impl_onlyValue.id [.int .i64 a0] H=f (callF PP orc k) k a0 H:=by
 intros a0 H
 rw [callF_at (fn:=Go.Proofs.Try.f85) (c:=body) Go.Proofs.Try.func85 (by kernel_rfl) (Nat.le_of_ble_eq_true (by kernel_rfl)),f_eq]
 kernel_rfl
end impl_onlyValue
namespace impl_MasksCount
noncomputable def body:Code:=(Go.Proofs.Try.f38).body.getD .skip
abbrev o:=orc impl_MasksCount.id
noncomputable def j1 (rec:Rec) (k:Nat) (x5:Int) (H:Hp):An:=some (.int .i64 x5,H)
noncomputable def l0 (rec:Rec) (k:Nat):Nat→Int→Sl→Int→Int→Hp→An
 | 0,_,_,_,_,_=>none
 | n + 1,x5,x12,x13,x14,H=>bif decide (x14 < x13) then bif decide (0 ≤ (x14:Int)) && decide ((x14:Int) < x12.len) then (ldI .i64 H x12.blk (x12.off + (x14:Int).toNat * 1)).bind fun n3=>(rec math_bits_OnesCount.id [.int .u64 (IntKind.u64.wrap n3)] H).bind fun r4=>(r4.1.toI .i64).bind fun n5=>(l0 rec k n) (IntKind.i64.wrap (x5 + n5)) x12 x13 (IntKind.i64.wrap (x14 + 1)) r4.2 else none else j1 rec k x5 H
noncomputable def f (rec:Rec) (k:Nat) (a0:Sl) (a1:Int) (H:Hp):An:=(rec impl_MasksValid.id [.sl 1 a0,.int .i64 a1] H).bind fun r1=>r1.1.toB.bind fun b2=>bif !b2 then some (.int .i64 (-1),r1.2) else l0 rec k k 0 a0 (a0.len:Int) 0 r1.2
theorem j1_eq (rec:Rec) (k:Nat):∀ x5 H,j1 rec k x5 H=ex PP o rec k (sub body [1,1,1,1]) (St.of 25 [(5,.int .i64 x5)] []) H (kAt PP o rec k body [1,1,1,1] [] (K0 PP Go.Proofs.Try.f38)):=by
 intros x5 H
 unfold j1
 kernel_rfl
theorem l0_eq (rec:Rec) (k:Nat):∀ n x5 x12 x13 x14 H,l0 rec k n x5 x12 x13 x14 H=iter (o.at (lbody (sub body [1,1,1,0,1,0]))) (ex PP o rec k (lbody (sub body [1,1,1,0,1,0]))) (kAt PP o rec k body [1,1,1,0,1,0] [] (K0 PP Go.Proofs.Try.f38)) n (St.of 25 [(5,.int .i64 x5),(12,.sl 1 x12),(13,.int .i64 x13),(14,.int .i64 x14)] []) H:=by
 intro n
 induction n with
 | zero=>intros; rfl
 | succ n ih=>
  intros x5 x12 x13 x14 H
  simp only [l0,j1_eq rec k,ih,-eq_self]
  kernel_rfl
theorem f_eq (rec:Rec) (k:Nat):∀ a0 a1 H,f rec k a0 a1 H=ex PP o rec k body (St.of 25 [(0,.sl 1 a0),(1,.int .i64 a1)] []) H (K0 PP Go.Proofs.Try.f38):=by
 intros a0 a1 H
 unfold f
 try simp only [l0_eq rec k,-eq_self]
 kernel_rfl
theorem call (k:Nat):∀ a0 a1 H,callF PP orc (k + 1) impl_MasksCount.id [.sl 1 a0,.int .i64 a1] H=f (callF PP orc k) k a0 a1 H:=by
 intros a0 a1 H
 rw [callF_at (fn:=Go.Proofs.Try.f38) (c:=body) Go.Proofs.Try.func38 (by kernel_rfl) (Nat.le_of_ble_eq_true (by kernel_rfl)),f_eq]
 kernel_rfl
end impl_MasksCount
namespace spec_MasksCount
noncomputable def body:Code:=(Go.Proofs.Try.f77).body.getD .skip
abbrev o:=orc spec_MasksCount.id
noncomputable def j1 (rec:Rec) (k:Nat) (x5:Int) (H:Hp):An:=some (.int .i64 x5,H)
noncomputable def l0 (rec:Rec) (k:Nat):Nat→Sl→Int→Int→Hp→An
 | 0,_,_,_,_=>none
 | n + 1,x0,x5,x6,H=>bif decide (x6 < (x0.len:Int)) then bif decide (0 ≤ (x6:Int)) && decide ((x6:Int) < x0.len) then (ldI .i64 H x0.blk (x0.off + (x6:Int).toNat * 1)).bind fun n3=>(rec spec_MaskValues.id [.int .i64 n3] H).bind fun r4=>(r4.1.toS 1).bind fun s5=>(l0 rec k n) x0 (IntKind.i64.wrap (x5 + (s5.len:Int))) (IntKind.i64.wrap (x6 + 1)) r4.2 else none else j1 rec k x5 H
noncomputable def f (rec:Rec) (k:Nat) (a0:Sl) (a1:Int) (H:Hp):An:=(rec spec_MasksValid.id [.sl 1 a0,.int .i64 a1] H).bind fun r1=>r1.1.toB.bind fun b2=>bif !b2 then some (.int .i64 (-1),r1.2) else l0 rec k k a0 0 0 r1.2
theorem j1_eq (rec:Rec) (k:Nat):∀ x5 H,j1 rec k x5 H=ex PP o rec k (sub body [1,1,1,1]) (St.of 26 [(5,.int .i64 x5)] []) H (kAt PP o rec k body [1,1,1,1] [] (K0 PP Go.Proofs.Try.f77)):=by
 intros x5 H
 unfold j1
 kernel_rfl
theorem l0_eq (rec:Rec) (k:Nat):∀ n x0 x5 x6 H,l0 rec k n x0 x5 x6 H=iter (o.at (lbody (sub body [1,1,1,0,1,0]))) (ex PP o rec k (lbody (sub body [1,1,1,0,1,0]))) (kAt PP o rec k body [1,1,1,0,1,0] [] (K0 PP Go.Proofs.Try.f77)) n (St.of 26 [(0,.sl 1 x0),(5,.int .i64 x5),(6,.int .i64 x6)] []) H:=by
 intro n
 induction n with
 | zero=>intros; rfl
 | succ n ih=>
  intros x0 x5 x6 H
  simp only [l0,j1_eq rec k,ih,-eq_self]
  kernel_rfl
theorem f_eq (rec:Rec) (k:Nat):∀ a0 a1 H,f rec k a0 a1 H=ex PP o rec k body (St.of 26 [(0,.sl 1 a0),(1,.int .i64 a1)] []) H (K0 PP Go.Proofs.Try.f77):=by
 intros a0 a1 H
 unfold f
 try simp only [l0_eq rec k,-eq_self]
 kernel_rfl
theorem call (k:Nat):∀ a0 a1 H,callF PP orc (k + 1) spec_MasksCount.id [.sl 1 a0,.int .i64 a1] H=f (callF PP orc k) k a0 a1 H:=by
 intros a0 a1 H
 rw [callF_at (fn:=Go.Proofs.Try.f77) (c:=body) Go.Proofs.Try.func77 (by kernel_rfl) (Nat.le_of_ble_eq_true (by kernel_rfl)),f_eq]
 kernel_rfl
end spec_MasksCount
end Go.Proofs.Ytchliocobgkmbaa.Rp
