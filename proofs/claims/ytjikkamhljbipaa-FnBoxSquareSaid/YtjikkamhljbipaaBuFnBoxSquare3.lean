/- Texts for the row of the law FnBoxSquare, part 3: the plain machine, the program's functions on it, what they come to. No conditions. -/
import Derived.Test.YtjikkamhljbipaaAb
import Derived.Test.YtjikkamhljbipaaOr
set_option linter.unusedVariables false
set_option linter.unusedSimpArgs false
set_option maxRecDepth 100000
namespace Go.Proofs.Ytjikkamhljbipaa.Rp
open Go Go.Proofs.Ytjikkamhljbipaa.Ab
namespace laws_alive
noncomputable def body:Code:=(Go.Proofs.Try.f17).body.getD .skip
noncomputable def f (rec:Rec) (k:Nat) (H:Hp):An:=(rec impl_GridFilled.id [.sl 1 (Sl.mk false H.length 0 4),.int .i64 2] (H ++ [some (Blk.mk false [.int .i64 1,.int .i64 0,.int .i64 0,.int .i64 2])])).bind fun r1=>(r1.1.toI .i64).bind fun n2=>some (.bool (n2 == 2),r1.2)
theorem f_eq (rec:Rec) (k:Nat):∀ H,f rec k H=ex PP (orc laws_alive.id) rec k body (St.of 4 [] []) H (K0 PP Go.Proofs.Try.f17):=by
 intros H
 unfold f
 kernel_rfl
theorem call (k:Nat):∀ H,callF PP orc (k + 1) laws_alive.id [] H=f (callF PP orc k) k H:=by
 intros H
 rw [callF_at (fn:=Go.Proofs.Try.f17) (c:=body) Go.Proofs.Try.func17 (by kernel_rfl) (Nat.le_of_ble_eq_true (by kernel_rfl)),f_eq]
 kernel_rfl
end laws_alive
namespace impl_allValues
noncomputable def body:Code:=(Go.Proofs.Try.f74).body.getD .skip
noncomputable def f (rec:Rec) (k:Nat) (a0:Int) (H:Hp):An:=if (IntKind.i64.wrap (a0 + 1):Int) < 0 then none else some (.int .i64 (IntKind.i64.wrap ((IntKind.i64.wrap (1 * 2 ^ (min (IntKind.i64.wrap (a0 + 1):Int).toNat IntKind.i64.bits))) - 2)),H)
theorem f_eq (rec:Rec) (k:Nat):∀ a0 H,f rec k a0 H=ex PP (orc impl_allValues.id) rec k body (St.of 7 [(0,.int .i64 a0)] []) H (K0 PP Go.Proofs.Try.f74):=by
 intros a0 H
 unfold f
 kernel_rfl
theorem call (k:Nat):∀ a0 H,callF PP orc (k + 1) impl_allValues.id [.int .i64 a0] H=f (callF PP orc k) k a0 H:=by
 intros a0 H
 rw [callF_at (fn:=Go.Proofs.Try.f74) (c:=body) Go.Proofs.Try.func74 (by kernel_rfl) (Nat.le_of_ble_eq_true (by kernel_rfl)),f_eq]
 kernel_rfl
end impl_allValues
namespace impl_valuesHold
noncomputable def body:Code:=(Go.Proofs.Try.f96).body.getD .skip
abbrev o:=orc impl_valuesHold.id
abbrev TL0:=Sl→Int→Int→Sl→Int→Int→Int→Sl→Int→Hp→An
abbrev PhL0 (rec:Rec) (k n0:Nat) (L0:TL0):Prop:=∀ x1 x5 x6 x9 x10 x11 y2_0 y2_1 y2_2 H,L0 x1 x5 x6 x9 x10 x11 y2_0 y2_1 y2_2 H=iter (o.at (lbody (sub body [1,1,0,1,0]))) (ex PP o rec k (lbody (sub body [1,1,0,1,0]))) (kAt PP o rec k body [1,1,0,1,0] [] (K0 PP Go.Proofs.Try.f96)) n0 (St.of 76 [(1,.sl 1 x1),(2,.lp 2 0),(5,.int .i64 x5),(6,.int .i64 x6),(9,.sl 1 x9),(10,.int .i64 x10),(11,.int .i64 x11)] [(2,[.int .i64 y2_0,.sl 1 y2_1,.int .i64 y2_2])]) H
noncomputable def j2 (rec:Rec) (k:Nat) (x1:Sl) (x5:Int) (x6:Int) (y2_0:Int) (y2_1:Sl) (y2_2:Int) (H:Hp):An:=bif y2_0 == 2 then some (.bool (x5 == y2_2),H) else bif y2_0 == 3 then some (.bool (x6 == y2_2),H) else bif y2_0 == 4 then bif decide (0 ≤ (0:Int)) && decide ((0:Int) < x1.len) then (ldI .i64 H x1.blk (x1.off + (0:Int).toNat * 1)).bind fun n4=>bif decide (0 ≤ (1:Int)) && decide ((1:Int) < x1.len) then (ldI .i64 H x1.blk (x1.off + (1:Int).toNat * 1)).bind fun n5=>some (.bool (decide (n4 < n5)),H) else none else none else bif y2_0 == 5 then bif decide (0 ≤ (0:Int)) && decide ((0:Int) < x1.len) then (ldI .i64 H x1.blk (x1.off + (0:Int).toNat * 1)).bind fun n6=>bif decide (0 ≤ (1:Int)) && decide ((1:Int) < x1.len) then (ldI .i64 H x1.blk (x1.off + (1:Int).toNat * 1)).bind fun n7=>bif decide (0 ≤ (1:Int)) && decide ((1:Int) < x1.len) then (ldI .i64 H x1.blk (x1.off + (1:Int).toNat * 1)).bind fun n8=>bif decide (0 ≤ (0:Int)) && decide ((0:Int) < x1.len) then (ldI .i64 H x1.blk (x1.off + (0:Int).toNat * 1)).bind fun n9=>some (.bool ((mx (IntKind.i64.wrap (n6 - n7)) (IntKind.i64.wrap (n8 - n9))) == y2_2),H) else none else none else none else none else some (.bool true,H)
noncomputable def j3 (rec:Rec) (k:Nat) (L0:TL0) (x1:Sl) (x5:Int) (x6:Int) (x9:Sl) (x10:Int) (x11:Int) (y2_0:Int) (y2_1:Sl) (y2_2:Int) (H:Hp):An:=L0 x1 x5 x6 x9 x10 (IntKind.i64.wrap (x11 + 1)) y2_0 y2_1 y2_2 H
noncomputable def j1 (rec:Rec) (k:Nat) (L0:TL0) (x1:Sl) (x5:Int) (x6:Int) (x9:Sl) (x10:Int) (x11:Int) (x31:Bool) (y2_0:Int) (y2_1:Sl) (y2_2:Int) (H:Hp):An:=bif x31 then some (.bool false,H) else j3 rec k L0 x1 x5 x6 x9 x10 x11 y2_0 y2_1 y2_2 H
noncomputable def l0 (rec:Rec) (k:Nat):Nat→Sl→Int→Int→Sl→Int→Int→Int→Sl→Int→Hp→An
 | 0,_,_,_,_,_,_,_,_,_,_=>none
 | n + 1,x1,x5,x6,x9,x10,x11,y2_0,y2_1,y2_2,H=>bif decide (x11 < x10) then bif decide (0 ≤ (x11:Int)) && decide ((x11:Int) < x9.len) then (ldI .i64 H x9.blk (x9.off + (x11:Int).toNat * 1)).bind fun n1=>bif y2_0 == 1 then if (0 ≤ (0:Int)∧(0:Int) ≤ x11∧(x11:Int) ≤ x1.len∧(x11:Int)=x11)∧0 < 1∧true=true then (rec slices_Contains_int.id [.sl 1 (Sl.mk x1.nil x1.blk (x1.off + (0:Int).toNat * 1) ((x11:Int) - 0).toNat),.int .i64 n1] H).bind fun r2=>r2.1.toB.bind fun b3=>j1 rec k (l0 rec k n) x1 (IntKind.i64.wrap (x5 + n1)) (IntKind.i64.wrap (x6 * n1)) x9 x10 x11 b3 y2_0 y2_1 y2_2 r2.2 else none else j1 rec k (l0 rec k n) x1 (IntKind.i64.wrap (x5 + n1)) (IntKind.i64.wrap (x6 * n1)) x9 x10 x11 false y2_0 y2_1 y2_2 H else none else j2 rec k x1 x5 x6 y2_0 y2_1 y2_2 H
noncomputable def f (rec:Rec) (k:Nat) (a0_0:Int) (a0_1:Sl) (a0_2:Int) (a1:Sl) (H:Hp):An:=l0 rec k k a1 0 1 a1 (a1.len:Int) 0 a0_0 a0_1 a0_2 H
theorem j2_eq (rec:Rec) (k:Nat):∀ x1 x5 x6 y2_0 y2_1 y2_2 H,j2 rec k x1 x5 x6 y2_0 y2_1 y2_2 H=ex PP o rec k (sub body [1,1,1]) (St.of 76 [(1,.sl 1 x1),(2,.lp 2 0),(5,.int .i64 x5),(6,.int .i64 x6)] [(2,[.int .i64 y2_0,.sl 1 y2_1,.int .i64 y2_2])]) H (kAt PP o rec k body [1,1,1] [] (K0 PP Go.Proofs.Try.f96)):=by
 intros x1 x5 x6 y2_0 y2_1 y2_2 H
 unfold j2
 kernel_rfl
theorem j3_eq (rec:Rec) (k:Nat) (n0:Nat) (L0:TL0) (hL0:PhL0 rec k n0 L0):∀ x1 x5 x6 x9 x10 x11 y2_0 y2_1 y2_2 H,j3 rec k L0 x1 x5 x6 x9 x10 x11 y2_0 y2_1 y2_2 H=ex PP o rec k (sub body [1,1,0,1,0,0,1,1,1]) (St.of 76 [(1,.sl 1 x1),(2,.lp 2 0),(5,.int .i64 x5),(6,.int .i64 x6),(9,.sl 1 x9),(10,.int .i64 x10),(11,.int .i64 x11)] [(2,[.int .i64 y2_0,.sl 1 y2_1,.int .i64 y2_2])]) H (kAt PP o rec k body [1,1,0,1,0,0,1,1,1] [n0] (K0 PP Go.Proofs.Try.f96)):=by
 intros x1 x5 x6 x9 x10 x11 y2_0 y2_1 y2_2 H
 unfold j3
 try simp only [hL0,-eq_self]
 kernel_rfl
theorem j1_eq (rec:Rec) (k:Nat) (n0:Nat) (L0:TL0) (hL0:PhL0 rec k n0 L0):∀ x1 x5 x6 x9 x10 x11 x31 y2_0 y2_1 y2_2 H,j1 rec k L0 x1 x5 x6 x9 x10 x11 x31 y2_0 y2_1 y2_2 H=ex PP o rec k (sub body [1,1,0,1,0,0,1,1,0,0,1,1,1,1]) (St.of 76 [(1,.sl 1 x1),(2,.lp 2 0),(5,.int .i64 x5),(6,.int .i64 x6),(9,.sl 1 x9),(10,.int .i64 x10),(11,.int .i64 x11),(31,.bool x31)] [(2,[.int .i64 y2_0,.sl 1 y2_1,.int .i64 y2_2])]) H (kAt PP o rec k body [1,1,0,1,0,0,1,1,0,0,1,1,1,1] [n0] (K0 PP Go.Proofs.Try.f96)):=by
 intros x1 x5 x6 x9 x10 x11 x31 y2_0 y2_1 y2_2 H
 unfold j1
 try simp only [hL0,j3_eq rec k n0 L0 hL0,-eq_self]
 kernel_rfl
theorem l0_eq (rec:Rec) (k:Nat):∀ n x1 x5 x6 x9 x10 x11 y2_0 y2_1 y2_2 H,l0 rec k n x1 x5 x6 x9 x10 x11 y2_0 y2_1 y2_2 H=iter (o.at (lbody (sub body [1,1,0,1,0]))) (ex PP o rec k (lbody (sub body [1,1,0,1,0]))) (kAt PP o rec k body [1,1,0,1,0] [] (K0 PP Go.Proofs.Try.f96)) n (St.of 76 [(1,.sl 1 x1),(2,.lp 2 0),(5,.int .i64 x5),(6,.int .i64 x6),(9,.sl 1 x9),(10,.int .i64 x10),(11,.int .i64 x11)] [(2,[.int .i64 y2_0,.sl 1 y2_1,.int .i64 y2_2])]) H:=by
 intro n
 induction n with
 | zero=>intros; rfl
 | succ n ih=>
  intros x1 x5 x6 x9 x10 x11 y2_0 y2_1 y2_2 H
  simp only [l0,j1_eq rec k n (l0 rec k n) (fun x1 x5 x6 x9 x10 x11 y2_0 y2_1 y2_2 H=>ih x1 x5 x6 x9 x10 x11 y2_0 y2_1 y2_2 H),j2_eq rec k,ih,-eq_self]
  kernel_rfl
theorem f_eq (rec:Rec) (k:Nat):∀ a0_0 a0_1 a0_2 a1 H,f rec k a0_0 a0_1 a0_2 a1 H=ex PP o rec k body (St.of 76 [(0,.agg [.int .i64 a0_0,.sl 1 a0_1,.int .i64 a0_2]),(1,.sl 1 a1)] []) H (K0 PP Go.Proofs.Try.f96):=by
 intros a0_0 a0_1 a0_2 a1 H
 unfold f
 try simp only [l0_eq rec k,-eq_self]
 kernel_rfl
theorem call (k:Nat):∀ a0_0 a0_1 a0_2 a1 H,callF PP orc (k + 1) impl_valuesHold.id [.agg [.int .i64 a0_0,.sl 1 a0_1,.int .i64 a0_2],.sl 1 a1] H=f (callF PP orc k) k a0_0 a0_1 a0_2 a1 H:=by
 intros a0_0 a0_1 a0_2 a1 H
 rw [callF_at (fn:=Go.Proofs.Try.f96) (c:=body) Go.Proofs.Try.func96 (by kernel_rfl) (Nat.le_of_ble_eq_true (by kernel_rfl)),f_eq]
 kernel_rfl
end impl_valuesHold
namespace impl_ruleMasks
noncomputable def body:Code:=(Go.Proofs.Try.f104).body.getD .skip
noncomputable def f (rec:Rec) (k:Nat) (a0_0:Int) (a0_1:Sl) (a0_2:Int) (a1:Sl) (H:Hp):An:=(ldS 1 (H ++ [some (Blk.mk false [.int .i64 a0_0,.sl 1 a0_1,.int .i64 a0_2])] ++ [some (Blk.mk false [.sl 1 a1])]) ((H ++ [some (Blk.mk false [.int .i64 a0_0,.sl 1 a0_1,.int .i64 a0_2])]).length) 0).bind fun s1=>if 0 ≤ ((s1.len:Int):Int)∧((s1.len:Int):Int) ≤ (s1.len:Int)∧((s1.len:Int):Int) ≤ 1073741824∧8 ≤ 8192∧0 < 1 then ((H ++ [some (Blk.mk false [.int .i64 a0_0,.sl 1 a0_1,.int .i64 a0_2])] ++ [some (Blk.mk false [.sl 1 a1])] ++ [some (Blk.mk false (List.replicate ((s1.len:Int):Int).toNat [.int .i64 0]).flatten)] ++ [some (Blk.mk false [.sl 1 Sl.none])]).sto ((H ++ [some (Blk.mk false [.int .i64 a0_0,.sl 1 a0_1,.int .i64 a0_2])] ++ [some (Blk.mk false [.sl 1 a1])] ++ [some (Blk.mk false (List.replicate ((s1.len:Int):Int).toNat [.int .i64 0]).flatten)]).length) 0 [.sl 1 (Sl.mk false (H ++ [some (Blk.mk false [.int .i64 a0_0,.sl 1 a0_1,.int .i64 a0_2])] ++ [some (Blk.mk false [.sl 1 a1])]).length 0 ((s1.len:Int):Int).toNat)]).bind fun H2=>(ldS 1 H2 ((H ++ [some (Blk.mk false [.int .i64 a0_0,.sl 1 a0_1,.int .i64 a0_2])]).length) 0).bind fun s3=>if 0 ≤ ((s3.len:Int):Int)∧((s3.len:Int):Int) ≤ (s3.len:Int)∧((s3.len:Int):Int) ≤ 1073741824∧8 ≤ 8192∧0 < 1 then ((H2 ++ [some (Blk.mk false (List.replicate ((s3.len:Int):Int).toNat [.int .i64 0]).flatten)] ++ [some (Blk.mk false [.sl 1 Sl.none])]).sto ((H2 ++ [some (Blk.mk false (List.replicate ((s3.len:Int):Int).toNat [.int .i64 0]).flatten)]).length) 0 [.sl 1 (Sl.mk false H2.length 0 ((s3.len:Int):Int).toNat)]).bind fun H4=>((H4 ++ [some (Blk.mk false [.nilf])]).sto H4.length 0 [.fn impl_ruleMasks_1.id [.ptr ((H ++ [some (Blk.mk false [.int .i64 a0_0,.sl 1 a0_1,.int .i64 a0_2])]).length) 0,.ptr H.length 0,.ptr ((H2 ++ [some (Blk.mk false (List.replicate ((s3.len:Int):Int).toNat [.int .i64 0]).flatten)]).length) 0,.ptr ((H ++ [some (Blk.mk false [.int .i64 a0_0,.sl 1 a0_1,.int .i64 a0_2])] ++ [some (Blk.mk false [.sl 1 a1])] ++ [some (Blk.mk false (List.replicate ((s1.len:Int):Int).toNat [.int .i64 0]).flatten)]).length) 0,.ptr H4.length 0]]).bind fun H5=>(ldF H5 H4.length 0).bind fun q6=>bif okF Go.Proofs.Try.prog q6.1 && ([.int .i64 0] ++ q6.2:List AV).all AV.glob then (rec q6.1 ([.int .i64 0] ++ q6.2) H5).bind fun r7=>(ldS 1 r7.2 ((H ++ [some (Blk.mk false [.int .i64 a0_0,.sl 1 a0_1,.int .i64 a0_2])] ++ [some (Blk.mk false [.sl 1 a1])] ++ [some (Blk.mk false (List.replicate ((s1.len:Int):Int).toNat [.int .i64 0]).flatten)]).length) 0).bind fun s8=>some (.sl 1 s8,r7.2) else none else none else none
theorem f_eq (rec:Rec) (k:Nat):∀ a0_0 a0_1 a0_2 a1 H,f rec k a0_0 a0_1 a0_2 a1 H=ex PP (orc impl_ruleMasks.id) rec k body (St.of 18 [(0,.agg [.int .i64 a0_0,.sl 1 a0_1,.int .i64 a0_2]),(1,.sl 1 a1)] []) H (K0 PP Go.Proofs.Try.f104):=by
 intros a0_0 a0_1 a0_2 a1 H
 unfold f
 kernel_rfl
theorem call (k:Nat):∀ a0_0 a0_1 a0_2 a1 H,callF PP orc (k + 1) impl_ruleMasks.id [.agg [.int .i64 a0_0,.sl 1 a0_1,.int .i64 a0_2],.sl 1 a1] H=f (callF PP orc k) k a0_0 a0_1 a0_2 a1 H:=by
 intros a0_0 a0_1 a0_2 a1 H
 rw [callF_at (fn:=Go.Proofs.Try.f104) (c:=body) Go.Proofs.Try.func104 (by kernel_rfl) (Nat.le_of_ble_eq_true (by kernel_rfl)),f_eq]
 kernel_rfl
end impl_ruleMasks
namespace impl_ruleMasks_1
noncomputable def body:Code:=(Go.Proofs.Try.f111).body.getD .skip
abbrev o:=orc impl_ruleMasks_1.id
noncomputable def l0 (rec:Rec) (k:Nat):Nat→Nat→Nat→Sl→Int→Int→Hp→An
 | 0,_,_,_,_,_,_=>none
 | n + 1,x4b,x4o,x17,x18,x19,H=>bif decide (x19 < x18) then bif decide (0 ≤ (x19:Int)) && decide ((x19:Int) < x17.len) then (ldI .i64 H x17.blk (x17.off + (x19:Int).toNat * 1)).bind fun n9=>(ldS 1 H x4b x4o).bind fun s10=>bif decide (0 ≤ (x19:Int)) && decide ((x19:Int) < s10.len) then (ldI .i64 H s10.blk (s10.off + (x19:Int).toNat * 1)).bind fun n11=>if (n9:Int) < 0 then none else bif decide (0 ≤ (x19:Int)) && decide ((x19:Int) < s10.len) then (H.sto s10.blk (s10.off + (x19:Int).toNat * 1) [.int .i64 (IntKind.i64.wrap (((BitVec.ofInt IntKind.i64.bits n11 ||| BitVec.ofInt IntKind.i64.bits (IntKind.i64.wrap (1 * 2 ^ (min (n9:Int).toNat IntKind.i64.bits)))).toNat:Int)))]).bind fun H12=>(l0 rec k n) x4b x4o x17 x18 (IntKind.i64.wrap (x19 + 1)) H12 else none else none else none else some (.tup [],H)
noncomputable def j2 (rec:Rec) (k:Nat) (L1:Int→Nat→Nat→Nat→Nat→Nat→Nat→Int→Hp→An) (x0:Int) (x1b:Nat) (x1o:Nat) (x3b:Nat) (x3o:Nat) (x5b:Nat) (x5o:Nat) (x9:Int) (H:Hp):An:=L1 x0 x1b x1o x3b x3o x5b x5o (IntKind.i64.wrap (x9 + 1)) H
noncomputable def l1 (rec:Rec) (k:Nat):Nat→Int→Nat→Nat→Nat→Nat→Nat→Nat→Int→Hp→An
 | 0,_,_,_,_,_,_,_,_,_=>none
 | n + 1,x0,x1b,x1o,x3b,x3o,x5b,x5o,x9,H=>bif decide (x9 ≤ 4) then (ldS 1 H x1b x1o).bind fun s13=>bif decide (0 ≤ (x0:Int)) && decide ((x0:Int) < s13.len) then (ldI .i64 H s13.blk (s13.off + (x0:Int).toNat * 1)).bind fun n14=>if (x9:Int) < 0 then none else bif (IntKind.i64.wrap (((BitVec.ofInt IntKind.i64.bits ((n14:Int).fdiv (2 ^ (min (x9:Int).toNat IntKind.i64.bits))) &&& BitVec.ofInt IntKind.i64.bits 1).toNat:Int))) == 1 then (ldS 1 H x3b x3o).bind fun s15=>bif decide (0 ≤ (x0:Int)) && decide ((x0:Int) < s15.len) then (H.sto s15.blk (s15.off + (x0:Int).toNat * 1) [.int .i64 x9]).bind fun H16=>(ldF H16 x5b x5o).bind fun q17=>bif okF Go.Proofs.Try.prog q17.1 && ([.int .i64 (IntKind.i64.wrap (x0 + 1))] ++ q17.2:List AV).all AV.glob then (rec q17.1 ([.int .i64 (IntKind.i64.wrap (x0 + 1))] ++ q17.2) H16).bind fun r18=>j2 rec k (l1 rec k n) x0 x1b x1o x3b x3o x5b x5o x9 r18.2 else none else none else j2 rec k (l1 rec k n) x0 x1b x1o x3b x3o x5b x5o x9 H else none else some (.tup [],H)
noncomputable def f (rec:Rec) (k:Nat) (a0:Int) (c0b:Nat) (c0o:Nat) (c1b:Nat) (c1o:Nat) (c2b:Nat) (c2o:Nat) (c3b:Nat) (c3o:Nat) (c4b:Nat) (c4o:Nat) (H:Hp):An:=(ldS 1 H c0b c0o).bind fun s1=>bif a0 == (s1.len:Int) then (ldI .i64 H c1b c1o).bind fun n2=>(ldS 1 H c1b (c1o + 1)).bind fun s3=>(ldI .i64 H c1b (c1o + 1 + 1)).bind fun n4=>(ldS 1 H c2b c2o).bind fun s5=>(rec impl_valuesHold.id [.agg [.int .i64 n2,.sl 1 s3,.int .i64 n4],.sl 1 s5] H).bind fun r6=>r6.1.toB.bind fun b7=>bif b7 then (ldS 1 r6.2 c2b c2o).bind fun s8=>l0 rec k k c3b c3o s8 (s8.len:Int) 0 r6.2 else some (.tup [],r6.2) else l1 rec k k a0 c0b c0o c2b c2o c4b c4o 1 H
theorem l0_eq (rec:Rec) (k:Nat):∀ n x4b x4o x17 x18 x19 H,l0 rec k n x4b x4o x17 x18 x19 H=iter (o.at (lbody (sub body [0,1,0,0,1,0,1,0]))) (ex PP o rec k (lbody (sub body [0,1,0,0,1,0,1,0]))) (kAt PP o rec k body [0,1,0,0,1,0,1,0] [] (K0 PP Go.Proofs.Try.f111)) n (St.of 53 [(4,.ptr x4b x4o),(17,.sl 1 x17),(18,.int .i64 x18),(19,.int .i64 x19)] []) H:=by
 intro n
 induction n with
 | zero=>intros; rfl
 | succ n ih=>
  intros x4b x4o x17 x18 x19 H
  simp only [l0,ih,-eq_self]
  kernel_rfl
theorem j2_eq (rec:Rec) (k:Nat) (n1:Nat) (L1:Int→Nat→Nat→Nat→Nat→Nat→Nat→Int→Hp→An) (hL1:∀ x0 x1b x1o x3b x3o x5b x5o x9 H,L1 x0 x1b x1o x3b x3o x5b x5o x9 H=iter (o.at (lbody (sub body [1,1,0]))) (ex PP o rec k (lbody (sub body [1,1,0]))) (kAt PP o rec k body [1,1,0] [] (K0 PP Go.Proofs.Try.f111)) n1 (St.of 53 [(0,.int .i64 x0),(1,.ptr x1b x1o),(3,.ptr x3b x3o),(5,.ptr x5b x5o),(9,.int .i64 x9)] []) H):∀ x0 x1b x1o x3b x3o x5b x5o x9 H,j2 rec k L1 x0 x1b x1o x3b x3o x5b x5o x9 H=ex PP o rec k (sub body [1,1,0,0,1,1]) (St.of 53 [(0,.int .i64 x0),(1,.ptr x1b x1o),(3,.ptr x3b x3o),(5,.ptr x5b x5o),(9,.int .i64 x9)] []) H (kAt PP o rec k body [1,1,0,0,1,1] [n1] (K0 PP Go.Proofs.Try.f111)):=by
 intros x0 x1b x1o x3b x3o x5b x5o x9 H
 unfold j2
 try simp only [hL1,-eq_self]
 kernel_rfl
theorem l1_eq (rec:Rec) (k:Nat):∀ n x0 x1b x1o x3b x3o x5b x5o x9 H,l1 rec k n x0 x1b x1o x3b x3o x5b x5o x9 H=iter (o.at (lbody (sub body [1,1,0]))) (ex PP o rec k (lbody (sub body [1,1,0]))) (kAt PP o rec k body [1,1,0] [] (K0 PP Go.Proofs.Try.f111)) n (St.of 53 [(0,.int .i64 x0),(1,.ptr x1b x1o),(3,.ptr x3b x3o),(5,.ptr x5b x5o),(9,.int .i64 x9)] []) H:=by
 intro n
 induction n with
 | zero=>intros; rfl
 | succ n ih=>
  intros x0 x1b x1o x3b x3o x5b x5o x9 H
  simp only [l1,j2_eq rec k n (l1 rec k n) (fun x0 x1b x1o x3b x3o x5b x5o x9 H=>ih x0 x1b x1o x3b x3o x5b x5o x9 H),ih,-eq_self]
  kernel_rfl
theorem f_eq (rec:Rec) (k:Nat):∀ a0 c0b c0o c1b c1o c2b c2o c3b c3o c4b c4o H,f rec k a0 c0b c0o c1b c1o c2b c2o c3b c3o c4b c4o H=ex PP o rec k body (St.of 53 [(0,.int .i64 a0),(1,.ptr c0b c0o),(2,.ptr c1b c1o),(3,.ptr c2b c2o),(4,.ptr c3b c3o),(5,.ptr c4b c4o)] []) H (K0 PP Go.Proofs.Try.f111):=by
 intros a0 c0b c0o c1b c1o c2b c2o c3b c3o c4b c4o H
 unfold f
 try simp only [l0_eq rec k,l1_eq rec k,-eq_self]
 kernel_rfl
theorem call (k:Nat):∀ a0 c0b c0o c1b c1o c2b c2o c3b c3o c4b c4o H,callF PP orc (k + 1) impl_ruleMasks_1.id [.int .i64 a0,.ptr c0b c0o,.ptr c1b c1o,.ptr c2b c2o,.ptr c3b c3o,.ptr c4b c4o] H=f (callF PP orc k) k a0 c0b c0o c1b c1o c2b c2o c3b c3o c4b c4o H:=by
 intros a0 c0b c0o c1b c1o c2b c2o c3b c3o c4b c4o H
 rw [callF_at (fn:=Go.Proofs.Try.f111) (c:=body) Go.Proofs.Try.func111 (by kernel_rfl) (Nat.le_of_ble_eq_true (by kernel_rfl)),f_eq]
 kernel_rfl
end impl_ruleMasks_1
namespace impl_canHold
noncomputable def body:Code:=(Go.Proofs.Try.f87).body.getD .skip
abbrev o:=orc impl_canHold.id
noncomputable def j1 (rec:Rec) (k:Nat) (L0:Sl→Int→Sl→Sl→Int→Int→Int→Sl→Int→Hp→An) (x1:Sl) (x2:Int) (x7:Sl) (x12:Sl) (x13:Int) (x14:Int) (y3_0:Int) (y3_1:Sl) (y3_2:Int) (H:Hp):An:=L0 x1 x2 x7 x12 x13 (IntKind.i64.wrap (x14 + 1)) y3_0 y3_1 y3_2 H
noncomputable def j2 (rec:Rec) (k:Nat) (x7:Sl) (y3_0:Int) (y3_1:Sl) (y3_2:Int) (H:Hp):An:=(rec impl_ruleMasks.id [.agg [.int .i64 y3_0,.sl 1 y3_1,.int .i64 y3_2],.sl 1 x7] H).bind fun r8=>(r8.1.toS 1).bind fun s9=>bif decide (0 ≤ (0:Int)) && decide ((0:Int) < s9.len) then (ldI .i64 r8.2 s9.blk (s9.off + (0:Int).toNat * 1)).bind fun n10=>some (.bool (n10 != 0),r8.2) else none
noncomputable def l0 (rec:Rec) (k:Nat):Nat→Sl→Int→Sl→Sl→Int→Int→Int→Sl→Int→Hp→An
 | 0,_,_,_,_,_,_,_,_,_,_=>none
 | n + 1,x1,x2,x7,x12,x13,x14,y3_0,y3_1,y3_2,H=>bif decide (x14 < x13) then bif decide (0 ≤ (x14:Int)) && decide ((x14:Int) < x12.len) then (ldI .i64 H x12.blk (x12.off + (x14:Int).toNat * 1)).bind fun n1=>bif decide (0 ≤ (n1:Int)) && decide ((n1:Int) < x1.len) then (ldI .i64 H x1.blk (x1.off + (n1:Int).toNat * 1)).bind fun n2=>bif decide (n2 > 0) then bif decide (0 ≤ (n1:Int)) && decide ((n1:Int) < x1.len) then (ldI .i64 H x1.blk (x1.off + (n1:Int).toNat * 1)).bind fun n3=>if (n3:Int) < 0 then none else (H.app 1 x7 1 [.int .i64 (IntKind.i64.wrap (1 * 2 ^ (min (n3:Int).toNat IntKind.i64.bits)))]).bind fun w4=>j1 rec k (l0 rec k n) x1 x2 w4.1 x12 x13 x14 y3_0 y3_1 y3_2 w4.2 else none else (rec impl_allValues.id [.int .i64 x2] H).bind fun r5=>(r5.1.toI .i64).bind fun n6=>(r5.2.app 1 x7 1 [.int .i64 n6]).bind fun w7=>j1 rec k (l0 rec k n) x1 x2 w7.1 x12 x13 x14 y3_0 y3_1 y3_2 w7.2 else none else none else j2 rec k x7 y3_0 y3_1 y3_2 H
noncomputable def f (rec:Rec) (k:Nat) (a0_0:Int) (a0_1:Sl) (a0_2:Int) (a1:Sl) (a2:Int) (H:Hp):An:=l0 rec k k a1 a2 (Sl.mk false H.length 0 0) a0_1 (a0_1.len:Int) 0 a0_0 a0_1 a0_2 (H ++ [some (Blk.mk false [])])
theorem j1_eq (rec:Rec) (k:Nat) (n0:Nat) (L0:Sl→Int→Sl→Sl→Int→Int→Int→Sl→Int→Hp→An) (hL0:∀ x1 x2 x7 x12 x13 x14 y3_0 y3_1 y3_2 H,L0 x1 x2 x7 x12 x13 x14 y3_0 y3_1 y3_2 H=iter (o.at (lbody (sub body [1,1,0,1,0]))) (ex PP o rec k (lbody (sub body [1,1,0,1,0]))) (kAt PP o rec k body [1,1,0,1,0] [] (K0 PP Go.Proofs.Try.f87)) n0 (St.of 43 [(1,.sl 1 x1),(2,.int .i64 x2),(3,.lp 3 0),(7,.sl 1 x7),(12,.sl 1 x12),(13,.int .i64 x13),(14,.int .i64 x14)] [(3,[.int .i64 y3_0,.sl 1 y3_1,.int .i64 y3_2])]) H):∀ x1 x2 x7 x12 x13 x14 y3_0 y3_1 y3_2 H,j1 rec k L0 x1 x2 x7 x12 x13 x14 y3_0 y3_1 y3_2 H=ex PP o rec k (sub body [1,1,0,1,0,0,1,1,1]) (St.of 43 [(1,.sl 1 x1),(2,.int .i64 x2),(3,.lp 3 0),(7,.sl 1 x7),(12,.sl 1 x12),(13,.int .i64 x13),(14,.int .i64 x14)] [(3,[.int .i64 y3_0,.sl 1 y3_1,.int .i64 y3_2])]) H (kAt PP o rec k body [1,1,0,1,0,0,1,1,1] [n0] (K0 PP Go.Proofs.Try.f87)):=by
 intros x1 x2 x7 x12 x13 x14 y3_0 y3_1 y3_2 H
 unfold j1
 try simp only [hL0,-eq_self]
 kernel_rfl
theorem j2_eq (rec:Rec) (k:Nat):∀ x7 y3_0 y3_1 y3_2 H,j2 rec k x7 y3_0 y3_1 y3_2 H=ex PP o rec k (sub body [1,1,1]) (St.of 43 [(3,.lp 3 0),(7,.sl 1 x7)] [(3,[.int .i64 y3_0,.sl 1 y3_1,.int .i64 y3_2])]) H (kAt PP o rec k body [1,1,1] [] (K0 PP Go.Proofs.Try.f87)):=by
 intros x7 y3_0 y3_1 y3_2 H
 unfold j2
 kernel_rfl
theorem l0_eq (rec:Rec) (k:Nat):∀ n x1 x2 x7 x12 x13 x14 y3_0 y3_1 y3_2 H,l0 rec k n x1 x2 x7 x12 x13 x14 y3_0 y3_1 y3_2 H=iter (o.at (lbody (sub body [1,1,0,1,0]))) (ex PP o rec k (lbody (sub body [1,1,0,1,0]))) (kAt PP o rec k body [1,1,0,1,0] [] (K0 PP Go.Proofs.Try.f87)) n (St.of 43 [(1,.sl 1 x1),(2,.int .i64 x2),(3,.lp 3 0),(7,.sl 1 x7),(12,.sl 1 x12),(13,.int .i64 x13),(14,.int .i64 x14)] [(3,[.int .i64 y3_0,.sl 1 y3_1,.int .i64 y3_2])]) H:=by
 intro n
 induction n with
 | zero=>intros; rfl
 | succ n ih=>
  intros x1 x2 x7 x12 x13 x14 y3_0 y3_1 y3_2 H
  simp only [l0,j1_eq rec k n (l0 rec k n) (fun x1 x2 x7 x12 x13 x14 y3_0 y3_1 y3_2 H=>ih x1 x2 x7 x12 x13 x14 y3_0 y3_1 y3_2 H),j2_eq rec k,ih,-eq_self]
  kernel_rfl
theorem f_eq (rec:Rec) (k:Nat):∀ a0_0 a0_1 a0_2 a1 a2 H,f rec k a0_0 a0_1 a0_2 a1 a2 H=ex PP o rec k body (St.of 43 [(0,.agg [.int .i64 a0_0,.sl 1 a0_1,.int .i64 a0_2]),(1,.sl 1 a1),(2,.int .i64 a2)] []) H (K0 PP Go.Proofs.Try.f87):=by
 intros a0_0 a0_1 a0_2 a1 a2 H
 unfold f
 try simp only [l0_eq rec k,-eq_self]
 kernel_rfl
theorem call (k:Nat):∀ a0_0 a0_1 a0_2 a1 a2 H,callF PP orc (k + 1) impl_canHold.id [.agg [.int .i64 a0_0,.sl 1 a0_1,.int .i64 a0_2],.sl 1 a1,.int .i64 a2] H=f (callF PP orc k) k a0_0 a0_1 a0_2 a1 a2 H:=by
 intros a0_0 a0_1 a0_2 a1 a2 H
 rw [callF_at (fn:=Go.Proofs.Try.f87) (c:=body) Go.Proofs.Try.func87 (by kernel_rfl) (Nat.le_of_ble_eq_true (by kernel_rfl)),f_eq]
 kernel_rfl
end impl_canHold
namespace impl_PuzzleFits
noncomputable def body:Code:=(Go.Proofs.Try.f60).body.getD .skip
abbrev o:=orc impl_PuzzleFits.id
abbrev TL2:=Sl→Sl→Int→Int→Int→Sl→Sl→Hp→An
abbrev PhL2 (rec:Rec) (k n2:Nat) (L2:TL2):Prop:=∀ x1 x19 x20 x21 y2_0 y2_1 y2_2 H,L2 x1 x19 x20 x21 y2_0 y2_1 y2_2 H=iter (o.at (lbody (sub body [1,1,0,1,0]))) (ex PP o rec k (lbody (sub body [1,1,0,1,0]))) (kAt PP o rec k body [1,1,0,1,0] [] (K0 PP Go.Proofs.Try.f60)) n2 (St.of 60 [(1,.sl 1 x1),(2,.lp 2 0),(19,.sl 1 x19),(20,.int .i64 x20),(21,.int .i64 x21)] [(2,[.int .i64 y2_0,.sl 1 y2_1,.sl 3 y2_2])]) H
noncomputable def j5 (rec:Rec) (k:Nat) (L2:TL2) (x1:Sl) (x19:Sl) (x20:Int) (x21:Int) (y2_0:Int) (y2_1:Sl) (y2_2:Sl) (H:Hp):An:=L2 x1 x19 x20 (IntKind.i64.wrap (x21 + 1)) y2_0 y2_1 y2_2 H
noncomputable def j3 (rec:Rec) (k:Nat) (L2:TL2) (x1:Sl) (x19:Sl) (x20:Int) (x21:Int) (x44:Bool) (y2_0:Int) (y2_1:Sl) (y2_2:Sl) (H:Hp):An:=bif x44 then some (.bool false,H) else j5 rec k L2 x1 x19 x20 x21 y2_0 y2_1 y2_2 H
noncomputable def l6 (rec:Rec) (k:Nat):Nat→Sl→Sl→Int→Int→Int→Sl→Sl→Hp→An
 | 0,_,_,_,_,_,_,_,_=>none
 | n + 1,x1,x47,x48,x49,y2_0,y2_1,y2_2,H=>bif decide (x49 < x48) then bif decide (0 ≤ (x49:Int)) && decide ((x49:Int) < x47.len) then (ldI .i64 H x47.blk (x47.off + (x49:Int).toNat * 3)).bind fun n8=>(ldS 1 H x47.blk (x47.off + (x49:Int).toNat * 3 + 1)).bind fun s9=>(ldI .i64 H x47.blk (x47.off + (x49:Int).toNat * 3 + 1 + 1)).bind fun n10=>(rec impl_canHold.id [.agg [.int .i64 n8,.sl 1 s9,.int .i64 n10],.sl 1 x1,.int .i64 y2_0] H).bind fun r11=>r11.1.toB.bind fun b12=>bif !b12 then some (.bool false,r11.2) else (l6 rec k n) x1 x47 x48 (IntKind.i64.wrap (x49 + 1)) y2_0 y2_1 y2_2 r11.2 else none else some (.bool true,H)
noncomputable def j4 (rec:Rec) (k:Nat) (x1:Sl) (y2_0:Int) (y2_1:Sl) (y2_2:Sl) (H:Hp):An:=l6 rec k k x1 y2_2 (y2_2.len:Int) 0 y2_0 y2_1 y2_2 H
noncomputable def l2 (rec:Rec) (k:Nat):Nat→Sl→Sl→Int→Int→Int→Sl→Sl→Hp→An
 | 0,_,_,_,_,_,_,_,_=>none
 | n + 1,x1,x19,x20,x21,y2_0,y2_1,y2_2,H=>bif decide (x21 < x20) then bif decide (0 ≤ (x21:Int)) && decide ((x21:Int) < x19.len) then (ldI .i64 H x19.blk (x19.off + (x21:Int).toNat * 1)).bind fun n5=>bif decide (n5 > 0) then bif decide (0 ≤ (x21:Int)) && decide ((x21:Int) < y2_1.len) then (ldI .i64 H y2_1.blk (y2_1.off + (x21:Int).toNat * 1)).bind fun n6=>bif decide (n6 > 0) then bif decide (0 ≤ (x21:Int)) && decide ((x21:Int) < y2_1.len) then (ldI .i64 H y2_1.blk (y2_1.off + (x21:Int).toNat * 1)).bind fun n7=>j3 rec k (l2 rec k n) x1 x19 x20 x21 (n5 != n7) y2_0 y2_1 y2_2 H else none else j3 rec k (l2 rec k n) x1 x19 x20 x21 false y2_0 y2_1 y2_2 H else none else j3 rec k (l2 rec k n) x1 x19 x20 x21 false y2_0 y2_1 y2_2 H else none else j4 rec k x1 y2_0 y2_1 y2_2 H
noncomputable def j1 (rec:Rec) (k:Nat) (x1:Sl) (y2_0:Int) (y2_1:Sl) (y2_2:Sl) (H:Hp):An:=l2 rec k k x1 x1 (x1.len:Int) 0 y2_0 y2_1 y2_2 H
noncomputable def j0 (rec:Rec) (k:Nat) (x1:Sl) (x18:Bool) (y2_0:Int) (y2_1:Sl) (y2_2:Sl) (H:Hp):An:=bif x18 then some (.bool false,H) else j1 rec k x1 y2_0 y2_1 y2_2 H
noncomputable def f (rec:Rec) (k:Nat) (a0_0:Int) (a0_1:Sl) (a0_2:Sl) (a1:Sl) (H:Hp):An:=(rec impl_PuzzleValid.id [.agg [.int .i64 a0_0,.sl 1 a0_1,.sl 3 a0_2]] H).bind fun r1=>r1.1.toB.bind fun b2=>bif !b2 then j0 rec k a1 true a0_0 a0_1 a0_2 r1.2 else (rec impl_SquareFits.id [.sl 1 a1,.int .i64 a0_0] r1.2).bind fun r3=>r3.1.toB.bind fun b4=>j0 rec k a1 (!b4) a0_0 a0_1 a0_2 r3.2
theorem j5_eq (rec:Rec) (k:Nat) (n2:Nat) (L2:TL2) (hL2:PhL2 rec k n2 L2):∀ x1 x19 x20 x21 y2_0 y2_1 y2_2 H,j5 rec k L2 x1 x19 x20 x21 y2_0 y2_1 y2_2 H=ex PP o rec k (sub body [1,1,0,1,0,0,1,1,1]) (St.of 60 [(1,.sl 1 x1),(2,.lp 2 0),(19,.sl 1 x19),(20,.int .i64 x20),(21,.int .i64 x21)] [(2,[.int .i64 y2_0,.sl 1 y2_1,.sl 3 y2_2])]) H (kAt PP o rec k body [1,1,0,1,0,0,1,1,1] [n2] (K0 PP Go.Proofs.Try.f60)):=by
 intros x1 x19 x20 x21 y2_0 y2_1 y2_2 H
 unfold j5
 try simp only [hL2,-eq_self]
 kernel_rfl
theorem j3_eq (rec:Rec) (k:Nat) (n2:Nat) (L2:TL2) (hL2:PhL2 rec k n2 L2):∀ x1 x19 x20 x21 x44 y2_0 y2_1 y2_2 H,j3 rec k L2 x1 x19 x20 x21 x44 y2_0 y2_1 y2_2 H=ex PP o rec k (sub body [1,1,0,1,0,0,1,1,0,0,1,1]) (St.of 60 [(1,.sl 1 x1),(2,.lp 2 0),(19,.sl 1 x19),(20,.int .i64 x20),(21,.int .i64 x21),(44,.bool x44)] [(2,[.int .i64 y2_0,.sl 1 y2_1,.sl 3 y2_2])]) H (kAt PP o rec k body [1,1,0,1,0,0,1,1,0,0,1,1] [n2] (K0 PP Go.Proofs.Try.f60)):=by
 intros x1 x19 x20 x21 x44 y2_0 y2_1 y2_2 H
 unfold j3
 try simp only [hL2,j5_eq rec k n2 L2 hL2,-eq_self]
 kernel_rfl
theorem l6_eq (rec:Rec) (k:Nat):∀ n x1 x47 x48 x49 y2_0 y2_1 y2_2 H,l6 rec k n x1 x47 x48 x49 y2_0 y2_1 y2_2 H=iter (o.at (lbody (sub body [1,1,1,0,1,0]))) (ex PP o rec k (lbody (sub body [1,1,1,0,1,0]))) (kAt PP o rec k body [1,1,1,0,1,0] [] (K0 PP Go.Proofs.Try.f60)) n (St.of 60 [(1,.sl 1 x1),(2,.lp 2 0),(47,.sl 3 x47),(48,.int .i64 x48),(49,.int .i64 x49)] [(2,[.int .i64 y2_0,.sl 1 y2_1,.sl 3 y2_2])]) H:=by
 intro n
 induction n with
 | zero=>intros; rfl
 | succ n ih=>
  intros x1 x47 x48 x49 y2_0 y2_1 y2_2 H
  simp only [l6,ih,-eq_self]
  kernel_rfl
theorem j4_eq (rec:Rec) (k:Nat):∀ x1 y2_0 y2_1 y2_2 H,j4 rec k x1 y2_0 y2_1 y2_2 H=ex PP o rec k (sub body [1,1,1]) (St.of 60 [(1,.sl 1 x1),(2,.lp 2 0)] [(2,[.int .i64 y2_0,.sl 1 y2_1,.sl 3 y2_2])]) H (kAt PP o rec k body [1,1,1] [] (K0 PP Go.Proofs.Try.f60)):=by
 intros x1 y2_0 y2_1 y2_2 H
 unfold j4
 try simp only [l6_eq rec k,-eq_self]
 kernel_rfl
theorem l2_eq (rec:Rec) (k:Nat):∀ n x1 x19 x20 x21 y2_0 y2_1 y2_2 H,l2 rec k n x1 x19 x20 x21 y2_0 y2_1 y2_2 H=iter (o.at (lbody (sub body [1,1,0,1,0]))) (ex PP o rec k (lbody (sub body [1,1,0,1,0]))) (kAt PP o rec k body [1,1,0,1,0] [] (K0 PP Go.Proofs.Try.f60)) n (St.of 60 [(1,.sl 1 x1),(2,.lp 2 0),(19,.sl 1 x19),(20,.int .i64 x20),(21,.int .i64 x21)] [(2,[.int .i64 y2_0,.sl 1 y2_1,.sl 3 y2_2])]) H:=by
 intro n
 induction n with
 | zero=>intros; rfl
 | succ n ih=>
  intros x1 x19 x20 x21 y2_0 y2_1 y2_2 H
  simp only [l2,j3_eq rec k n (l2 rec k n) (fun x1 x19 x20 x21 y2_0 y2_1 y2_2 H=>ih x1 x19 x20 x21 y2_0 y2_1 y2_2 H),j4_eq rec k,ih,-eq_self]
  kernel_rfl
theorem j1_eq (rec:Rec) (k:Nat):∀ x1 y2_0 y2_1 y2_2 H,j1 rec k x1 y2_0 y2_1 y2_2 H=ex PP o rec k (sub body [1,1]) (St.of 60 [(1,.sl 1 x1),(2,.lp 2 0)] [(2,[.int .i64 y2_0,.sl 1 y2_1,.sl 3 y2_2])]) H (kAt PP o rec k body [1,1] [] (K0 PP Go.Proofs.Try.f60)):=by
 intros x1 y2_0 y2_1 y2_2 H
 unfold j1
 try simp only [l2_eq rec k,-eq_self]
 kernel_rfl
theorem j0_eq (rec:Rec) (k:Nat):∀ x1 x18 y2_0 y2_1 y2_2 H,j0 rec k x1 x18 y2_0 y2_1 y2_2 H=ex PP o rec k (sub body [1,0,1]) (St.of 60 [(1,.sl 1 x1),(2,.lp 2 0),(18,.bool x18)] [(2,[.int .i64 y2_0,.sl 1 y2_1,.sl 3 y2_2])]) H (kAt PP o rec k body [1,0,1] [] (K0 PP Go.Proofs.Try.f60)):=by
 intros x1 x18 y2_0 y2_1 y2_2 H
 unfold j0
 try simp only [j1_eq rec k,-eq_self]
 kernel_rfl
theorem f_eq (rec:Rec) (k:Nat):∀ a0_0 a0_1 a0_2 a1 H,f rec k a0_0 a0_1 a0_2 a1 H=ex PP o rec k body (St.of 60 [(0,.agg [.int .i64 a0_0,.sl 1 a0_1,.sl 3 a0_2]),(1,.sl 1 a1)] []) H (K0 PP Go.Proofs.Try.f60):=by
 intros a0_0 a0_1 a0_2 a1 H
 unfold f
 try simp only [j0_eq rec k,-eq_self]
 kernel_rfl
theorem call (k:Nat):∀ a0_0 a0_1 a0_2 a1 H,callF PP orc (k + 1) impl_PuzzleFits.id [.agg [.int .i64 a0_0,.sl 1 a0_1,.sl 3 a0_2],.sl 1 a1] H=f (callF PP orc k) k a0_0 a0_1 a0_2 a1 H:=by
 intros a0_0 a0_1 a0_2 a1 H
 rw [callF_at (fn:=Go.Proofs.Try.f60) (c:=body) Go.Proofs.Try.func60 (by kernel_rfl) (Nat.le_of_ble_eq_true (by kernel_rfl)),f_eq]
 kernel_rfl
end impl_PuzzleFits
namespace slices_Clone_int
noncomputable def body:Code:=(Go.Proofs.Try.f55).body.getD .skip
noncomputable def f (rec:Rec) (k:Nat) (a0:Sl) (H:Hp):An:=bif a0.nil then some (.sl 1 Sl.none,H) else (H.read 1 a0).bind fun c2=>(H.appl 1 [] 0 a0.len c2).bind fun w1=>bif true && c2.all AV.cell then some (.sl 1 w1.1,w1.2) else none
theorem f_eq (rec:Rec) (k:Nat):∀ a0 H,f rec k a0 H=ex PP (orc slices_Clone_int.id) rec k body (St.of 8 [(0,.sl 1 a0)] []) H (K0 PP Go.Proofs.Try.f55):=by
 intros a0 H
 unfold f
 kernel_rfl
theorem call (k:Nat):∀ a0 H,callF PP orc (k + 1) slices_Clone_int.id [.sl 1 a0] H=f (callF PP orc k) k a0 H:=by
 intros a0 H
 rw [callF_at (fn:=Go.Proofs.Try.f55) (c:=body) Go.Proofs.Try.func55 (by kernel_rfl) (Nat.le_of_ble_eq_true (by kernel_rfl)),f_eq]
 kernel_rfl
end slices_Clone_int
namespace impl_cellFits
noncomputable def body:Code:=(Go.Proofs.Try.f84).body.getD .skip
abbrev o:=orc impl_cellFits.id
abbrev TL0:=Sl→Int→Int→Int→Int→Int→Sl→Sl→Hp→An
abbrev TL1:=Sl→Int→Int→Int→Int→Sl→Int→Int→Int→Sl→Sl→Hp→An
abbrev TL5:=Sl→Int→Int→Sl→Int→Int→Hp→An
abbrev PhL0 (rec:Rec) (k n0:Nat) (L0:TL0):Prop:=∀ x1 x2 x7 x15 x16 y3_0 y3_1 y3_2 H,L0 x1 x2 x7 x15 x16 y3_0 y3_1 y3_2 H=iter (o.at (lbody (sub body [1,1,0,1,0]))) (ex PP o rec k (lbody (sub body [1,1,0,1,0]))) (kAt PP o rec k body [1,1,0,1,0] [] (K0 PP Go.Proofs.Try.f84)) n0 (St.of 74 [(1,.sl 1 x1),(2,.int .i64 x2),(3,.lp 3 0),(7,.int .i64 x7),(15,.int .i64 x15),(16,.int .i64 x16)] [(3,[.int .i64 y3_0,.sl 1 y3_1,.sl 3 y3_2])]) H
abbrev PhL1 (rec:Rec) (k n0 n1:Nat) (L1:TL1):Prop:=∀ x1 x2 x7 x15 x16 x33 x34 x35 y3_0 y3_1 y3_2 H,L1 x1 x2 x7 x15 x16 x33 x34 x35 y3_0 y3_1 y3_2 H=iter (o.at (lbody (sub body [1,1,0,1,0,0,1,1,0,0,1,1,0]))) (ex PP o rec k (lbody (sub body [1,1,0,1,0,0,1,1,0,0,1,1,0]))) (kAt PP o rec k body [1,1,0,1,0,0,1,1,0,0,1,1,0] [n0] (K0 PP Go.Proofs.Try.f84)) n1 (St.of 74 [(1,.sl 1 x1),(2,.int .i64 x2),(3,.lp 3 0),(7,.int .i64 x7),(15,.int .i64 x15),(16,.int .i64 x16),(33,.sl 1 x33),(34,.int .i64 x34),(35,.int .i64 x35)] [(3,[.int .i64 y3_0,.sl 1 y3_1,.sl 3 y3_2])]) H
abbrev PhL5 (rec:Rec) (k n5:Nat) (L5:TL5):Prop:=∀ x1 x2 x7 x56 x57 x58 H,L5 x1 x2 x7 x56 x57 x58 H=iter (o.at (lbody (sub body [1,1,1,0,1,0]))) (ex PP o rec k (lbody (sub body [1,1,1,0,1,0]))) (kAt PP o rec k body [1,1,1,0,1,0] [] (K0 PP Go.Proofs.Try.f84)) n5 (St.of 74 [(1,.sl 1 x1),(2,.int .i64 x2),(7,.int .i64 x7),(56,.sl 3 x56),(57,.int .i64 x57),(58,.int .i64 x58)] []) H
noncomputable def j4 (rec:Rec) (k:Nat) (L0:TL0) (x1:Sl) (x2:Int) (x7:Int) (x15:Int) (x16:Int) (y3_0:Int) (y3_1:Sl) (y3_2:Sl) (H:Hp):An:=L0 x1 x2 x7 x15 (IntKind.i64.wrap (x16 + 1)) y3_0 y3_1 y3_2 H
noncomputable def j6 (rec:Rec) (k:Nat) (L0:TL0) (L1:TL1) (x1:Sl) (x2:Int) (x7:Int) (x15:Int) (x16:Int) (x33:Sl) (x34:Int) (x35:Int) (y3_0:Int) (y3_1:Sl) (y3_2:Sl) (H:Hp):An:=L1 x1 x2 x7 x15 x16 x33 x34 (IntKind.i64.wrap (x35 + 1)) y3_0 y3_1 y3_2 H
noncomputable def j3 (rec:Rec) (k:Nat) (L0:TL0) (L1:TL1) (x1:Sl) (x2:Int) (x7:Int) (x15:Int) (x16:Int) (x33:Sl) (x34:Int) (x35:Int) (x52:Bool) (y3_0:Int) (y3_1:Sl) (y3_2:Sl) (H:Hp):An:=bif x52 then some (.bool false,H) else j6 rec k L0 L1 x1 x2 x7 x15 x16 x33 x34 x35 y3_0 y3_1 y3_2 H
noncomputable def l1 (rec:Rec) (k:Nat) (L0:TL0):Nat→Sl→Int→Int→Int→Int→Sl→Int→Int→Int→Sl→Sl→Hp→An
 | 0,_,_,_,_,_,_,_,_,_,_,_,_=>none
 | n + 1,x1,x2,x7,x15,x16,x33,x34,x35,y3_0,y3_1,y3_2,H=>bif decide (x35 < x34) then bif decide (0 ≤ (x35:Int)) && decide ((x35:Int) < x33.len) then (ldI .i64 H x33.blk (x33.off + (x35:Int).toNat * 1)).bind fun n1=>bif n1 != x2 then bif decide (0 ≤ (n1:Int)) && decide ((n1:Int) < x1.len) then (ldI .i64 H x1.blk (x1.off + (n1:Int).toNat * 1)).bind fun n2=>bif decide (0 ≤ (x2:Int)) && decide ((x2:Int) < x1.len) then (ldI .i64 H x1.blk (x1.off + (x2:Int).toNat * 1)).bind fun n3=>j3 rec k L0 (l1 rec k L0 n) x1 x2 x7 x15 x16 x33 x34 x35 (n2 == n3) y3_0 y3_1 y3_2 H else none else none else j3 rec k L0 (l1 rec k L0 n) x1 x2 x7 x15 x16 x33 x34 x35 false y3_0 y3_1 y3_2 H else none else j4 rec k L0 x1 x2 x7 x15 x16 y3_0 y3_1 y3_2 H
noncomputable def j8 (rec:Rec) (k:Nat) (L5:TL5) (x1:Sl) (x2:Int) (x7:Int) (x56:Sl) (x57:Int) (x58:Int) (H:Hp):An:=L5 x1 x2 x7 x56 x57 (IntKind.i64.wrap (x58 + 1)) H
noncomputable def j7 (rec:Rec) (k:Nat) (L5:TL5) (x1:Sl) (x2:Int) (x7:Int) (x56:Sl) (x57:Int) (x58:Int) (x72:Bool) (H:Hp):An:=bif x72 then some (.bool false,H) else j8 rec k L5 x1 x2 x7 x56 x57 x58 H
noncomputable def l5 (rec:Rec) (k:Nat):Nat→Sl→Int→Int→Sl→Int→Int→Hp→An
 | 0,_,_,_,_,_,_,_=>none
 | n + 1,x1,x2,x7,x56,x57,x58,H=>bif decide (x58 < x57) then bif decide (0 ≤ (x58:Int)) && decide ((x58:Int) < x56.len) then (ldI .i64 H x56.blk (x56.off + (x58:Int).toNat * 3)).bind fun n4=>(ldS 1 H x56.blk (x56.off + (x58:Int).toNat * 3 + 1)).bind fun s5=>(ldI .i64 H x56.blk (x56.off + (x58:Int).toNat * 3 + 1 + 1)).bind fun n6=>(rec slices_Contains_int.id [.sl 1 s5,.int .i64 x2] H).bind fun r7=>r7.1.toB.bind fun b8=>bif b8 then (rec impl_canHold.id [.agg [.int .i64 n4,.sl 1 s5,.int .i64 n6],.sl 1 x1,.int .i64 x7] r7.2).bind fun r9=>r9.1.toB.bind fun b10=>j7 rec k (l5 rec k n) x1 x2 x7 x56 x57 x58 (!b10) r9.2 else j7 rec k (l5 rec k n) x1 x2 x7 x56 x57 x58 false r7.2 else none else some (.bool true,H)
noncomputable def j2 (rec:Rec) (k:Nat) (x1:Sl) (x2:Int) (x7:Int) (y3_0:Int) (y3_1:Sl) (y3_2:Sl) (H:Hp):An:=l5 rec k k x1 x2 x7 y3_2 (y3_2.len:Int) 0 H
noncomputable def l0 (rec:Rec) (k:Nat):Nat→Sl→Int→Int→Int→Int→Int→Sl→Sl→Hp→An
 | 0,_,_,_,_,_,_,_,_,_=>none
 | n + 1,x1,x2,x7,x15,x16,y3_0,y3_1,y3_2,H=>bif decide (x16 < x15) then if (x7:Int)=0 then none else if (x7:Int)=0 then none else l1 rec k (l0 rec k n) k x1 x2 x7 x15 x16 (Sl.mk false H.length 0 2) ((Sl.mk false H.length 0 2).len:Int) 0 y3_0 y3_1 y3_2 (H ++ [some (Blk.mk false [.int .i64 (IntKind.i64.wrap ((IntKind.i64.wrap ((IntKind.i64.wrap ((x2:Int).tdiv x7)) * x7)) + x16)),.int .i64 (IntKind.i64.wrap ((IntKind.i64.wrap (x16 * x7)) + ((x2:Int).tmod x7)))])]) else j2 rec k x1 x2 x7 y3_0 y3_1 y3_2 H
noncomputable def f (rec:Rec) (k:Nat) (a0_0:Int) (a0_1:Sl) (a0_2:Sl) (a1:Sl) (a2:Int) (H:Hp):An:=l0 rec k k a1 a2 a0_0 a0_0 0 a0_0 a0_1 a0_2 H
theorem j4_eq (rec:Rec) (k:Nat) (n0:Nat) (L0:TL0) (hL0:PhL0 rec k n0 L0):∀ x1 x2 x7 x15 x16 y3_0 y3_1 y3_2 H,j4 rec k L0 x1 x2 x7 x15 x16 y3_0 y3_1 y3_2 H=ex PP o rec k (sub body [1,1,0,1,0,0,1,1,1]) (St.of 74 [(1,.sl 1 x1),(2,.int .i64 x2),(3,.lp 3 0),(7,.int .i64 x7),(15,.int .i64 x15),(16,.int .i64 x16)] [(3,[.int .i64 y3_0,.sl 1 y3_1,.sl 3 y3_2])]) H (kAt PP o rec k body [1,1,0,1,0,0,1,1,1] [n0] (K0 PP Go.Proofs.Try.f84)):=by
 intros x1 x2 x7 x15 x16 y3_0 y3_1 y3_2 H
 unfold j4
 try simp only [hL0,-eq_self]
 kernel_rfl
theorem j6_eq (rec:Rec) (k:Nat) (n0:Nat) (L0:TL0) (hL0:PhL0 rec k n0 L0) (n1:Nat) (L1:TL1) (hL1:PhL1 rec k n0 n1 L1):∀ x1 x2 x7 x15 x16 x33 x34 x35 y3_0 y3_1 y3_2 H,j6 rec k L0 L1 x1 x2 x7 x15 x16 x33 x34 x35 y3_0 y3_1 y3_2 H=ex PP o rec k (sub body [1,1,0,1,0,0,1,1,0,0,1,1,0,0,1,1,1]) (St.of 74 [(1,.sl 1 x1),(2,.int .i64 x2),(3,.lp 3 0),(7,.int .i64 x7),(15,.int .i64 x15),(16,.int .i64 x16),(33,.sl 1 x33),(34,.int .i64 x34),(35,.int .i64 x35)] [(3,[.int .i64 y3_0,.sl 1 y3_1,.sl 3 y3_2])]) H (kAt PP o rec k body [1,1,0,1,0,0,1,1,0,0,1,1,0,0,1,1,1] [n0,n1] (K0 PP Go.Proofs.Try.f84)):=by
 intros x1 x2 x7 x15 x16 x33 x34 x35 y3_0 y3_1 y3_2 H
 unfold j6
 try simp only [hL0,hL1,-eq_self]
 kernel_rfl
theorem j3_eq (rec:Rec) (k:Nat) (n0:Nat) (L0:TL0) (hL0:PhL0 rec k n0 L0) (n1:Nat) (L1:TL1) (hL1:PhL1 rec k n0 n1 L1):∀ x1 x2 x7 x15 x16 x33 x34 x35 x52 y3_0 y3_1 y3_2 H,j3 rec k L0 L1 x1 x2 x7 x15 x16 x33 x34 x35 x52 y3_0 y3_1 y3_2 H=ex PP o rec k (sub body [1,1,0,1,0,0,1,1,0,0,1,1,0,0,1,1,0,0,1,1]) (St.of 74 [(1,.sl 1 x1),(2,.int .i64 x2),(3,.lp 3 0),(7,.int .i64 x7),(15,.int .i64 x15),(16,.int .i64 x16),(33,.sl 1 x33),(34,.int .i64 x34),(35,.int .i64 x35),(52,.bool x52)] [(3,[.int .i64 y3_0,.sl 1 y3_1,.sl 3 y3_2])]) H (kAt PP o rec k body [1,1,0,1,0,0,1,1,0,0,1,1,0,0,1,1,0,0,1,1] [n0,n1] (K0 PP Go.Proofs.Try.f84)):=by
 intros x1 x2 x7 x15 x16 x33 x34 x35 x52 y3_0 y3_1 y3_2 H
 unfold j3
 try simp only [hL0,hL1,j6_eq rec k n0 L0 hL0 n1 L1 hL1,-eq_self]
 kernel_rfl
theorem l1_eq (rec:Rec) (k:Nat) (n0:Nat) (L0:TL0) (hL0:PhL0 rec k n0 L0):∀ n x1 x2 x7 x15 x16 x33 x34 x35 y3_0 y3_1 y3_2 H,l1 rec k L0 n x1 x2 x7 x15 x16 x33 x34 x35 y3_0 y3_1 y3_2 H=iter (o.at (lbody (sub body [1,1,0,1,0,0,1,1,0,0,1,1,0]))) (ex PP o rec k (lbody (sub body [1,1,0,1,0,0,1,1,0,0,1,1,0]))) (kAt PP o rec k body [1,1,0,1,0,0,1,1,0,0,1,1,0] [n0] (K0 PP Go.Proofs.Try.f84)) n (St.of 74 [(1,.sl 1 x1),(2,.int .i64 x2),(3,.lp 3 0),(7,.int .i64 x7),(15,.int .i64 x15),(16,.int .i64 x16),(33,.sl 1 x33),(34,.int .i64 x34),(35,.int .i64 x35)] [(3,[.int .i64 y3_0,.sl 1 y3_1,.sl 3 y3_2])]) H:=by
 intro n
 induction n with
 | zero=>intros; rfl
 | succ n ih=>
  intros x1 x2 x7 x15 x16 x33 x34 x35 y3_0 y3_1 y3_2 H
  simp only [l1,hL0,j3_eq rec k n0 L0 hL0 n (l1 rec k L0 n) (fun x1 x2 x7 x15 x16 x33 x34 x35 y3_0 y3_1 y3_2 H=>ih x1 x2 x7 x15 x16 x33 x34 x35 y3_0 y3_1 y3_2 H),j4_eq rec k n0 L0 hL0,ih,-eq_self]
  kernel_rfl
theorem j8_eq (rec:Rec) (k:Nat) (n5:Nat) (L5:TL5) (hL5:PhL5 rec k n5 L5):∀ x1 x2 x7 x56 x57 x58 H,j8 rec k L5 x1 x2 x7 x56 x57 x58 H=ex PP o rec k (sub body [1,1,1,0,1,0,0,1,1,1]) (St.of 74 [(1,.sl 1 x1),(2,.int .i64 x2),(7,.int .i64 x7),(56,.sl 3 x56),(57,.int .i64 x57),(58,.int .i64 x58)] []) H (kAt PP o rec k body [1,1,1,0,1,0,0,1,1,1] [n5] (K0 PP Go.Proofs.Try.f84)):=by
 intros x1 x2 x7 x56 x57 x58 H
 unfold j8
 try simp only [hL5,-eq_self]
 kernel_rfl
theorem j7_eq (rec:Rec) (k:Nat) (n5:Nat) (L5:TL5) (hL5:PhL5 rec k n5 L5):∀ x1 x2 x7 x56 x57 x58 x72 H,j7 rec k L5 x1 x2 x7 x56 x57 x58 x72 H=ex PP o rec k (sub body [1,1,1,0,1,0,0,1,1,0,0,1,1]) (St.of 74 [(1,.sl 1 x1),(2,.int .i64 x2),(7,.int .i64 x7),(56,.sl 3 x56),(57,.int .i64 x57),(58,.int .i64 x58),(72,.bool x72)] []) H (kAt PP o rec k body [1,1,1,0,1,0,0,1,1,0,0,1,1] [n5] (K0 PP Go.Proofs.Try.f84)):=by
 intros x1 x2 x7 x56 x57 x58 x72 H
 unfold j7
 try simp only [hL5,j8_eq rec k n5 L5 hL5,-eq_self]
 kernel_rfl
theorem l5_eq (rec:Rec) (k:Nat):∀ n x1 x2 x7 x56 x57 x58 H,l5 rec k n x1 x2 x7 x56 x57 x58 H=iter (o.at (lbody (sub body [1,1,1,0,1,0]))) (ex PP o rec k (lbody (sub body [1,1,1,0,1,0]))) (kAt PP o rec k body [1,1,1,0,1,0] [] (K0 PP Go.Proofs.Try.f84)) n (St.of 74 [(1,.sl 1 x1),(2,.int .i64 x2),(7,.int .i64 x7),(56,.sl 3 x56),(57,.int .i64 x57),(58,.int .i64 x58)] []) H:=by
 intro n
 induction n with
 | zero=>intros; rfl
 | succ n ih=>
  intros x1 x2 x7 x56 x57 x58 H
  simp only [l5,j7_eq rec k n (l5 rec k n) (fun x1 x2 x7 x56 x57 x58 H=>ih x1 x2 x7 x56 x57 x58 H),ih,-eq_self]
  kernel_rfl
theorem j2_eq (rec:Rec) (k:Nat):∀ x1 x2 x7 y3_0 y3_1 y3_2 H,j2 rec k x1 x2 x7 y3_0 y3_1 y3_2 H=ex PP o rec k (sub body [1,1,1]) (St.of 74 [(1,.sl 1 x1),(2,.int .i64 x2),(3,.lp 3 0),(7,.int .i64 x7)] [(3,[.int .i64 y3_0,.sl 1 y3_1,.sl 3 y3_2])]) H (kAt PP o rec k body [1,1,1] [] (K0 PP Go.Proofs.Try.f84)):=by
 intros x1 x2 x7 y3_0 y3_1 y3_2 H
 unfold j2
 try simp only [l5_eq rec k,-eq_self]
 kernel_rfl
theorem l0_eq (rec:Rec) (k:Nat):∀ n x1 x2 x7 x15 x16 y3_0 y3_1 y3_2 H,l0 rec k n x1 x2 x7 x15 x16 y3_0 y3_1 y3_2 H=iter (o.at (lbody (sub body [1,1,0,1,0]))) (ex PP o rec k (lbody (sub body [1,1,0,1,0]))) (kAt PP o rec k body [1,1,0,1,0] [] (K0 PP Go.Proofs.Try.f84)) n (St.of 74 [(1,.sl 1 x1),(2,.int .i64 x2),(3,.lp 3 0),(7,.int .i64 x7),(15,.int .i64 x15),(16,.int .i64 x16)] [(3,[.int .i64 y3_0,.sl 1 y3_1,.sl 3 y3_2])]) H:=by
 intro n
 induction n with
 | zero=>intros; rfl
 | succ n ih=>
  intros x1 x2 x7 x15 x16 y3_0 y3_1 y3_2 H
  simp only [l0,l1_eq rec k n (l0 rec k n) (fun x1 x2 x7 x15 x16 y3_0 y3_1 y3_2 H=>ih x1 x2 x7 x15 x16 y3_0 y3_1 y3_2 H),j2_eq rec k,ih,-eq_self]
  kernel_rfl
theorem f_eq (rec:Rec) (k:Nat):∀ a0_0 a0_1 a0_2 a1 a2 H,f rec k a0_0 a0_1 a0_2 a1 a2 H=ex PP o rec k body (St.of 74 [(0,.agg [.int .i64 a0_0,.sl 1 a0_1,.sl 3 a0_2]),(1,.sl 1 a1),(2,.int .i64 a2)] []) H (K0 PP Go.Proofs.Try.f84):=by
 intros a0_0 a0_1 a0_2 a1 a2 H
 unfold f
 try simp only [l0_eq rec k,-eq_self]
 kernel_rfl
theorem call (k:Nat):∀ a0_0 a0_1 a0_2 a1 a2 H,callF PP orc (k + 1) impl_cellFits.id [.agg [.int .i64 a0_0,.sl 1 a0_1,.sl 3 a0_2],.sl 1 a1,.int .i64 a2] H=f (callF PP orc k) k a0_0 a0_1 a0_2 a1 a2 H:=by
 intros a0_0 a0_1 a0_2 a1 a2 H
 rw [callF_at (fn:=Go.Proofs.Try.f84) (c:=body) Go.Proofs.Try.func84 (by kernel_rfl) (Nat.le_of_ble_eq_true (by kernel_rfl)),f_eq]
 kernel_rfl
end impl_cellFits
end Go.Proofs.Ytjikkamhljbipaa.Rp
