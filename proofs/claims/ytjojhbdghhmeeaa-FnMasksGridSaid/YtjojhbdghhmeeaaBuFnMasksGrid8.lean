/- Texts for the row of the law FnMasksGrid, part 8: the plain machine, the program's functions on it, what they come to. No conditions. -/
import Derived.Test.YtjojhbdghhmeeaaAb
import Derived.Test.YtjojhbdghhmeeaaOr
set_option linter.unusedVariables false
set_option linter.unusedSimpArgs false
set_option maxRecDepth 100000
namespace Go.Proofs.Ytjojhbdghhmeeaa.Rp
open Go Go.Proofs.Ytjojhbdghhmeeaa.Ab
namespace impl_MaskValues
noncomputable def body:Code:=(Go.Proofs.Try.f34).body.getD .skip
abbrev o:=orc impl_MaskValues.id
noncomputable def j3 (rec:Rec) (k:Nat) (L2:Int→Sl→Int→Hp→An) (x0:Int) (x3:Sl) (x4:Int) (H:Hp):An:=L2 x0 x3 (IntKind.i64.wrap (x4 + 1)) H
noncomputable def j4 (rec:Rec) (k:Nat) (x3:Sl) (H:Hp):An:=some (.sl 1 x3,H)
noncomputable def l2 (rec:Rec) (k:Nat):Nat→Int→Sl→Int→Hp→An
 | 0,_,_,_,_=>none
 | n + 1,x0,x3,x4,H=>bif decide (x4 ≤ 4) then if (x4:Int) < 0 then none else bif (IntKind.i64.wrap (((BitVec.ofInt IntKind.i64.bits ((x0:Int).fdiv (2 ^ (min (x4:Int).toNat IntKind.i64.bits))) &&& BitVec.ofInt IntKind.i64.bits 1).toNat:Int))) == 1 then (H.app 1 x3 1 [.int .i64 x4]).bind fun w3=>j3 rec k (l2 rec k n) x0 w3.1 x4 w3.2 else j3 rec k (l2 rec k n) x0 x3 x4 H else j4 rec k x3 H
noncomputable def j1 (rec:Rec) (k:Nat) (x0:Int) (H:Hp):An:=l2 rec k k x0 (Sl.mk false H.length 0 0) 1 (H ++ [some (Blk.mk false [])])
noncomputable def j0 (rec:Rec) (k:Nat) (x0:Int) (x12:Bool) (H:Hp):An:=bif x12 then some (.sl 1 Sl.none,H) else j1 rec k x0 H
noncomputable def f (rec:Rec) (k:Nat) (a0:Int) (H:Hp):An:=bif decide (a0 < 0) then j0 rec k a0 true H else (rec impl_allValues.id [.int .i64 4] H).bind fun r1=>(r1.1.toI .i64).bind fun n2=>j0 rec k a0 ((IntKind.i64.wrap (((BitVec.ofInt IntKind.i64.bits a0 &&& ~~~ (BitVec.ofInt IntKind.i64.bits n2)).toNat:Int))) != 0) r1.2
theorem j3_eq (rec:Rec) (k:Nat) (n2:Nat) (L2:Int→Sl→Int→Hp→An) (hL2:∀ x0 x3 x4 H,L2 x0 x3 x4 H=iter (o.at (lbody (sub body [1,1,1,0,1,0]))) (ex PP o rec k (lbody (sub body [1,1,1,0,1,0]))) (kAt PP o rec k body [1,1,1,0,1,0] [] (K0 PP Go.Proofs.Try.f34)) n2 (St.of 28 [(0,.int .i64 x0),(3,.sl 1 x3),(4,.int .i64 x4)] []) H):∀ x0 x3 x4 H,j3 rec k L2 x0 x3 x4 H=ex PP o rec k (sub body [1,1,1,0,1,0,0,1,1]) (St.of 28 [(0,.int .i64 x0),(3,.sl 1 x3),(4,.int .i64 x4)] []) H (kAt PP o rec k body [1,1,1,0,1,0,0,1,1] [n2] (K0 PP Go.Proofs.Try.f34)):=by
 intros x0 x3 x4 H
 unfold j3
 try simp only [hL2,-eq_self]
 kernel_rfl
theorem j4_eq (rec:Rec) (k:Nat):∀ x3 H,j4 rec k x3 H=ex PP o rec k (sub body [1,1,1,1]) (St.of 28 [(3,.sl 1 x3)] []) H (kAt PP o rec k body [1,1,1,1] [] (K0 PP Go.Proofs.Try.f34)):=by
 intros x3 H
 unfold j4
 kernel_rfl
theorem l2_eq (rec:Rec) (k:Nat):∀ n x0 x3 x4 H,l2 rec k n x0 x3 x4 H=iter (o.at (lbody (sub body [1,1,1,0,1,0]))) (ex PP o rec k (lbody (sub body [1,1,1,0,1,0]))) (kAt PP o rec k body [1,1,1,0,1,0] [] (K0 PP Go.Proofs.Try.f34)) n (St.of 28 [(0,.int .i64 x0),(3,.sl 1 x3),(4,.int .i64 x4)] []) H:=by
 intro n
 induction n with
 | zero=>intros; rfl
 | succ n ih=>
  intros x0 x3 x4 H
  simp only [l2,j3_eq rec k n (l2 rec k n) (fun x0 x3 x4 H=>ih x0 x3 x4 H),j4_eq rec k,ih,-eq_self]
  kernel_rfl
theorem j1_eq (rec:Rec) (k:Nat):∀ x0 H,j1 rec k x0 H=ex PP o rec k (sub body [1,1]) (St.of 28 [(0,.int .i64 x0)] []) H (kAt PP o rec k body [1,1] [] (K0 PP Go.Proofs.Try.f34)):=by
 intros x0 H
 unfold j1
 try simp only [l2_eq rec k,-eq_self]
 kernel_rfl
theorem j0_eq (rec:Rec) (k:Nat):∀ x0 x12 H,j0 rec k x0 x12 H=ex PP o rec k (sub body [1,0,1]) (St.of 28 [(0,.int .i64 x0),(12,.bool x12)] []) H (kAt PP o rec k body [1,0,1] [] (K0 PP Go.Proofs.Try.f34)):=by
 intros x0 x12 H
 unfold j0
 try simp only [j1_eq rec k,-eq_self]
 kernel_rfl
theorem f_eq (rec:Rec) (k:Nat):∀ a0 H,f rec k a0 H=ex PP o rec k body (St.of 28 [(0,.int .i64 a0)] []) H (K0 PP Go.Proofs.Try.f34):=by
 intros a0 H
 unfold f
 try simp only [j0_eq rec k,-eq_self]
 kernel_rfl
theorem call (k:Nat):∀ a0 H,callF PP orc (k + 1) impl_MaskValues.id [.int .i64 a0] H=f (callF PP orc k) k a0 H:=by
 intros a0 H
 rw [callF_at (fn:=Go.Proofs.Try.f34) (c:=body) Go.Proofs.Try.func34 (by kernel_rfl) (Nat.le_of_ble_eq_true (by kernel_rfl)),f_eq]
 kernel_rfl
end impl_MaskValues
namespace laws_sameInts
noncomputable def body:Code:=(Go.Proofs.Try.f32).body.getD .skip
abbrev o:=orc laws_sameInts.id
noncomputable def l0 (rec:Rec) (k:Nat):Nat→Sl→Sl→Int→Hp→An
 | 0,_,_,_,_=>none
 | n + 1,x0,x1,x5,H=>bif decide (x5 < (x0.len:Int)) then bif decide (0 ≤ (x5:Int)) && decide ((x5:Int) < x0.len) then (ldI .i64 H x0.blk (x0.off + (x5:Int).toNat * 1)).bind fun n1=>bif decide (0 ≤ (x5:Int)) && decide ((x5:Int) < x1.len) then (ldI .i64 H x1.blk (x1.off + (x5:Int).toNat * 1)).bind fun n2=>bif n1 != n2 then some (.bool false,H) else (l0 rec k n) x0 x1 (IntKind.i64.wrap (x5 + 1)) H else none else none else some (.bool true,H)
noncomputable def f (rec:Rec) (k:Nat) (a0:Sl) (a1:Sl) (H:Hp):An:=bif (a0.len:Int) != (a1.len:Int) then some (.bool false,H) else l0 rec k k a0 a1 0 H
theorem l0_eq (rec:Rec) (k:Nat):∀ n x0 x1 x5 H,l0 rec k n x0 x1 x5 H=iter (o.at (lbody (sub body [1,1,0,1,0]))) (ex PP o rec k (lbody (sub body [1,1,0,1,0]))) (kAt PP o rec k body [1,1,0,1,0] [] (K0 PP Go.Proofs.Try.f32)) n (St.of 26 [(0,.sl 1 x0),(1,.sl 1 x1),(5,.int .i64 x5)] []) H:=by
 intro n
 induction n with
 | zero=>intros; rfl
 | succ n ih=>
  intros x0 x1 x5 H
  simp only [l0,ih,-eq_self]
  kernel_rfl
theorem f_eq (rec:Rec) (k:Nat):∀ a0 a1 H,f rec k a0 a1 H=ex PP o rec k body (St.of 26 [(0,.sl 1 a0),(1,.sl 1 a1)] []) H (K0 PP Go.Proofs.Try.f32):=by
 intros a0 a1 H
 unfold f
 try simp only [l0_eq rec k,-eq_self]
 kernel_rfl
theorem call (k:Nat):∀ a0 a1 H,callF PP orc (k + 1) laws_sameInts.id [.sl 1 a0,.sl 1 a1] H=f (callF PP orc k) k a0 a1 H:=by
 intros a0 a1 H
 rw [callF_at (fn:=Go.Proofs.Try.f32) (c:=body) Go.Proofs.Try.func32 (by kernel_rfl) (Nat.le_of_ble_eq_true (by kernel_rfl)),f_eq]
 kernel_rfl
end laws_sameInts
namespace laws_FnMasksGrid
noncomputable def body:Code:=(Go.Proofs.Try.f6).body.getD .skip
abbrev o:=orc laws_FnMasksGrid.id
abbrev TL0:=Sl→Int→Sl→Int→Hp→An
abbrev PhL0 (rec:Rec) (k n0:Nat) (L0:TL0):Prop:=∀ x3 x4 x5 x6 H,L0 x3 x4 x5 x6 H=iter (o.at (lbody (sub body [1,1,1,1,1,1,0,1,0]))) (ex PP o rec k (lbody (sub body [1,1,1,1,1,1,0,1,0]))) (kAt PP o rec k body [1,1,1,1,1,1,0,1,0] [] (K0 PP Go.Proofs.Try.f6)) n0 (St.of 77 [(3,.sl 1 x3),(4,.int .i64 x4),(5,.sl 1 x5),(6,.int .i64 x6)] []) H
noncomputable def j2 (rec:Rec) (k:Nat) (x3:Sl) (x4:Int) (x5:Sl) (H:Hp):An:=(rec impl_GridValid.id [.sl 1 x5,.int .i64 x4] H).bind fun r23=>r23.1.toB.bind fun b24=>bif b24 then some (.bool ((x5.len:Int) == (x3.len:Int)),r23.2) else some (.bool false,r23.2)
noncomputable def j3 (rec:Rec) (k:Nat) (L0:TL0) (x3:Sl) (x4:Int) (x5:Sl) (x6:Int) (H:Hp):An:=L0 x3 x4 x5 (IntKind.i64.wrap (x6 + 1)) H
noncomputable def j1 (rec:Rec) (k:Nat) (L0:TL0) (x3:Sl) (x4:Int) (x5:Sl) (x6:Int) (x66:Bool) (H:Hp):An:=bif x66 then some (.bool false,H) else j3 rec k L0 x3 x4 x5 x6 H
noncomputable def l0 (rec:Rec) (k:Nat):Nat→Sl→Int→Sl→Int→Hp→An
 | 0,_,_,_,_,_=>none
 | n + 1,x3,x4,x5,x6,H=>bif decide (x6 < (x5.len:Int)) then bif decide (0 ≤ (x6:Int)) && decide ((x6:Int) < x5.len) then (ldI .i64 H x5.blk (x5.off + (x6:Int).toNat * 1)).bind fun n12=>bif decide (n12 > 0) then bif decide (0 ≤ (x6:Int)) && decide ((x6:Int) < x3.len) then (ldI .i64 H x3.blk (x3.off + (x6:Int).toNat * 1)).bind fun n13=>bif decide (0 ≤ (x6:Int)) && decide ((x6:Int) < x5.len) then (ldI .i64 H x5.blk (x5.off + (x6:Int).toNat * 1)).bind fun n14=>if (n14:Int) < 0 then none else bif n13 != (IntKind.i64.wrap (1 * 2 ^ (min (n14:Int).toNat IntKind.i64.bits))) then j1 rec k (l0 rec k n) x3 x4 x5 x6 true H else bif decide (0 ≤ (x6:Int)) && decide ((x6:Int) < x5.len) then (ldI .i64 H x5.blk (x5.off + (x6:Int).toNat * 1)).bind fun n15=>bif n15 == 0 then bif decide (0 ≤ (x6:Int)) && decide ((x6:Int) < x3.len) then (ldI .i64 H x3.blk (x3.off + (x6:Int).toNat * 1)).bind fun n16=>(rec impl_MaskValues.id [.int .i64 n16] H).bind fun r17=>(r17.1.toS 1).bind fun s18=>j1 rec k (l0 rec k n) x3 x4 x5 x6 ((s18.len:Int) == 1) r17.2 else none else j1 rec k (l0 rec k n) x3 x4 x5 x6 false H else none else none else none else bif decide (0 ≤ (x6:Int)) && decide ((x6:Int) < x5.len) then (ldI .i64 H x5.blk (x5.off + (x6:Int).toNat * 1)).bind fun n19=>bif n19 == 0 then bif decide (0 ≤ (x6:Int)) && decide ((x6:Int) < x3.len) then (ldI .i64 H x3.blk (x3.off + (x6:Int).toNat * 1)).bind fun n20=>(rec impl_MaskValues.id [.int .i64 n20] H).bind fun r21=>(r21.1.toS 1).bind fun s22=>j1 rec k (l0 rec k n) x3 x4 x5 x6 ((s22.len:Int) == 1) r21.2 else none else j1 rec k (l0 rec k n) x3 x4 x5 x6 false H else none else none else j2 rec k x3 x4 x5 H
noncomputable def f (rec:Rec) (k:Nat) (a0:Sl) (H:Hp):An:=bif decide ((a0.len:Int) > 1048576) then some (.bool true,H) else (rec spec_DrawMasksGrid.id [.sl 1 a0] H).bind fun r1=>bif r1.1.isTup 2 then ((r1.1.nth 0).toS 1).bind fun s2=>((r1.1.nth 1).toI .i64).bind fun n3=>(rec impl_MasksGrid.id [.sl 1 s2,.int .i64 n3] r1.2).bind fun r4=>(r4.1.toS 1).bind fun s5=>(rec spec_MasksGrid.id [.sl 1 s2,.int .i64 n3] r4.2).bind fun r6=>(r6.1.toS 1).bind fun s7=>(rec laws_sameInts.id [.sl 1 s5,.sl 1 s7] r6.2).bind fun r8=>r8.1.toB.bind fun b9=>bif !b9 then some (.bool false,r8.2) else bif (s5.len:Int) == 0 then (rec laws_alive.id [] r8.2).bind fun r10=>r10.1.toB.bind fun b11=>some (.bool b11,r10.2) else l0 rec k k s2 n3 s5 0 r8.2 else none
theorem j2_eq (rec:Rec) (k:Nat):∀ x3 x4 x5 H,j2 rec k x3 x4 x5 H=ex PP o rec k (sub body [1,1,1,1,1,1,1]) (St.of 77 [(3,.sl 1 x3),(4,.int .i64 x4),(5,.sl 1 x5)] []) H (kAt PP o rec k body [1,1,1,1,1,1,1] [] (K0 PP Go.Proofs.Try.f6)):=by
 intros x3 x4 x5 H
 unfold j2
 kernel_rfl
theorem j3_eq (rec:Rec) (k:Nat) (n0:Nat) (L0:TL0) (hL0:PhL0 rec k n0 L0):∀ x3 x4 x5 x6 H,j3 rec k L0 x3 x4 x5 x6 H=ex PP o rec k (sub body [1,1,1,1,1,1,0,1,0,0,1,1]) (St.of 77 [(3,.sl 1 x3),(4,.int .i64 x4),(5,.sl 1 x5),(6,.int .i64 x6)] []) H (kAt PP o rec k body [1,1,1,1,1,1,0,1,0,0,1,1] [n0] (K0 PP Go.Proofs.Try.f6)):=by
 intros x3 x4 x5 x6 H
 unfold j3
 try simp only [hL0,-eq_self]
 kernel_rfl
theorem j1_eq (rec:Rec) (k:Nat) (n0:Nat) (L0:TL0) (hL0:PhL0 rec k n0 L0):∀ x3 x4 x5 x6 x66 H,j1 rec k L0 x3 x4 x5 x6 x66 H=ex PP o rec k (sub body [1,1,1,1,1,1,0,1,0,0,1,0,0,1]) (St.of 77 [(3,.sl 1 x3),(4,.int .i64 x4),(5,.sl 1 x5),(6,.int .i64 x6),(66,.bool x66)] []) H (kAt PP o rec k body [1,1,1,1,1,1,0,1,0,0,1,0,0,1] [n0] (K0 PP Go.Proofs.Try.f6)):=by
 intros x3 x4 x5 x6 x66 H
 unfold j1
 try simp only [hL0,j3_eq rec k n0 L0 hL0,-eq_self]
 kernel_rfl
theorem l0_eq (rec:Rec) (k:Nat):∀ n x3 x4 x5 x6 H,l0 rec k n x3 x4 x5 x6 H=iter (o.at (lbody (sub body [1,1,1,1,1,1,0,1,0]))) (ex PP o rec k (lbody (sub body [1,1,1,1,1,1,0,1,0]))) (kAt PP o rec k body [1,1,1,1,1,1,0,1,0] [] (K0 PP Go.Proofs.Try.f6)) n (St.of 77 [(3,.sl 1 x3),(4,.int .i64 x4),(5,.sl 1 x5),(6,.int .i64 x6)] []) H:=by
 intro n
 induction n with
 | zero=>intros; rfl
 | succ n ih=>
  intros x3 x4 x5 x6 H
  simp only [l0,j1_eq rec k n (l0 rec k n) (fun x3 x4 x5 x6 H=>ih x3 x4 x5 x6 H),j2_eq rec k,ih,-eq_self]
  kernel_rfl
theorem f_eq (rec:Rec) (k:Nat):∀ a0 H,f rec k a0 H=ex PP o rec k body (St.of 77 [(0,.sl 1 a0)] []) H (K0 PP Go.Proofs.Try.f6):=by
 intros a0 H
 unfold f
 try simp only [l0_eq rec k,-eq_self]
 kernel_rfl
theorem call (k:Nat):∀ a0 H,callF PP orc (k + 1) laws_FnMasksGrid.id [.sl 1 a0] H=f (callF PP orc k) k a0 H:=by
 intros a0 H
 rw [callF_at (fn:=Go.Proofs.Try.f6) (c:=body) Go.Proofs.Try.func6 (by kernel_rfl) (Nat.le_of_ble_eq_true (by kernel_rfl)),f_eq]
 kernel_rfl
end laws_FnMasksGrid
namespace spec_DrawMasksGrid
noncomputable def body:Code:=(Go.Proofs.Try.f30).body.getD .skip
noncomputable def f (rec:Rec) (k:Nat) (a0:Sl) (H:Hp):An:=(rec spec_l20Open.id [.sl 1 a0] H).bind fun r1=>r1.1.toP.bind fun p2=>(rec spec_l20Masks.id [.ptr p2.1 p2.2,.int .i64 9] r1.2).bind fun r3=>bif r3.1.isTup 2 then ((r3.1.nth 0).toS 1).bind fun s4=>((r3.1.nth 1).toI .i64).bind fun n5=>some (.tup [.sl 1 s4,.int .i64 n5],r3.2) else none
theorem f_eq (rec:Rec) (k:Nat):∀ a0 H,f rec k a0 H=ex PP (orc spec_DrawMasksGrid.id) rec k body (St.of 9 [(0,.sl 1 a0)] []) H (K0 PP Go.Proofs.Try.f30):=by
 intros a0 H
 unfold f
 kernel_rfl
theorem call (k:Nat):∀ a0 H,callF PP orc (k + 1) spec_DrawMasksGrid.id [.sl 1 a0] H=f (callF PP orc k) k a0 H:=by
 intros a0 H
 rw [callF_at (fn:=Go.Proofs.Try.f30) (c:=body) Go.Proofs.Try.func30 (by kernel_rfl) (Nat.le_of_ble_eq_true (by kernel_rfl)),f_eq]
 kernel_rfl
end spec_DrawMasksGrid
end Go.Proofs.Ytjojhbdghhmeeaa.Rp
