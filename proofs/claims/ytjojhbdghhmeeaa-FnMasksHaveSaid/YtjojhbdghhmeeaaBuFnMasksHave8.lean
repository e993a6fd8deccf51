/- Texts for the row of the law FnMasksHave, part 8: the plain machine, the program's functions on it, what they come to. No conditions. -/
import Derived.Test.YtjojhbdghhmeeaaAb
import Derived.Test.YtjojhbdghhmeeaaOr
set_option linter.unusedVariables false
set_option linter.unusedSimpArgs false
set_option maxRecDepth 100000
namespace Go.Proofs.Ytjojhbdghhmeeaa.Rp
open Go Go.Proofs.Ytjojhbdghhmeeaa.Ab
namespace laws_FnMasksHave
noncomputable def body:Code:=(Go.Proofs.Try.f5).body.getD .skip
abbrev o:=orc laws_FnMasksHave.id
noncomputable def j3 (rec:Rec) (k:Nat) (x4:Int) (x5:Sl) (x6:Bool) (x7:Sl) (x8:Sl) (H:Hp):An:=(rec impl_MasksHave.id [.sl 1 x7,.int .i64 x4,.sl 1 x5] H).bind fun r19=>r19.1.toB.bind fun b20=>(rec impl_GridFilled.id [.sl 1 x5,.int .i64 x4] r19.2).bind fun r21=>(r21.1.toI .i64).bind fun n22=>bif b20 == (n22 == (x5.len:Int)) then bif !x6 then some (.bool true,r21.2) else (rec impl_MasksHave.id [.sl 1 x8,.int .i64 x4,.sl 1 x5] r21.2).bind fun r23=>r23.1.toB.bind fun b24=>some (.bool b24,r23.2) else some (.bool false,r21.2)
noncomputable def l2 (rec:Rec) (k:Nat):Nat→Sl→Int→Sl→Bool→Sl→Sl→Int→Hp→An
 | 0,_,_,_,_,_,_,_,_=>none
 | n + 1,x3,x4,x5,x6,x7,x8,x9,H=>bif decide (x9 < (x5.len:Int)) then bif decide (0 ≤ (x9:Int)) && decide ((x9:Int) < x5.len) then (ldI .i64 H x5.blk (x5.off + (x9:Int).toNat * 1)).bind fun n15=>if (n15:Int) < 0 then none else (H.app 1 x7 1 [.int .i64 (IntKind.i64.wrap (((BitVec.ofInt IntKind.i64.bits (IntKind.i64.wrap (1 * 2 ^ (min (n15:Int).toNat IntKind.i64.bits))) &&& ~~~ (BitVec.ofInt IntKind.i64.bits 1)).toNat:Int)))]).bind fun w16=>bif decide (0 ≤ (x9:Int)) && decide ((x9:Int) < x3.len) then (ldI .i64 w16.2 x3.blk (x3.off + (x9:Int).toNat * 1)).bind fun n17=>(w16.2.app 1 x8 1 [.int .i64 (IntKind.i64.wrap (((BitVec.ofInt IntKind.i64.bits n17 ||| BitVec.ofInt IntKind.i64.bits 2).toNat:Int)))]).bind fun w18=>(l2 rec k n) x3 x4 x5 x6 w16.1 w18.1 (IntKind.i64.wrap (x9 + 1)) w18.2 else none else none else j3 rec k x4 x5 x6 x7 x8 H
noncomputable def j1 (rec:Rec) (k:Nat) (x3:Sl) (x4:Int) (x5:Sl) (x6:Bool) (H:Hp):An:=l2 rec k k x3 x4 x5 x6 (Sl.mk false H.length 0 0) (Sl.mk false ((H ++ [some (Blk.mk false [])]).length) 0 0) 0 (H ++ [some (Blk.mk false [])] ++ [some (Blk.mk false [])])
noncomputable def j0 (rec:Rec) (k:Nat) (x3:Sl) (x4:Int) (x5:Sl) (x6:Bool) (x38:Bool) (H:Hp):An:=bif x38 then bif !x6 then (rec laws_alive.id [] H).bind fun r13=>r13.1.toB.bind fun b14=>some (.bool b14,r13.2) else some (.bool false,H) else j1 rec k x3 x4 x5 x6 H
noncomputable def f (rec:Rec) (k:Nat) (a0:Sl) (H:Hp):An:=bif decide ((a0.len:Int) > 1048576) then some (.bool true,H) else (rec spec_DrawMasksHave.id [.sl 1 a0] H).bind fun r1=>bif r1.1.isTup 3 then ((r1.1.nth 0).toS 1).bind fun s2=>((r1.1.nth 1).toI .i64).bind fun n3=>((r1.1.nth 2).toS 1).bind fun s4=>(rec impl_MasksHave.id [.sl 1 s2,.int .i64 n3,.sl 1 s4] r1.2).bind fun r5=>r5.1.toB.bind fun b6=>(rec spec_MasksHave.id [.sl 1 s2,.int .i64 n3,.sl 1 s4] r5.2).bind fun r7=>r7.1.toB.bind fun b8=>bif !(b6 == b8) then some (.bool false,r7.2) else (rec spec_MasksValid.id [.sl 1 s2,.int .i64 n3] r7.2).bind fun r9=>r9.1.toB.bind fun b10=>bif !b10 then j0 rec k s2 n3 s4 b6 true r9.2 else (rec spec_GridValid.id [.sl 1 s4,.int .i64 n3] r9.2).bind fun r11=>r11.1.toB.bind fun b12=>j0 rec k s2 n3 s4 b6 (!b12) r11.2 else none
theorem j3_eq (rec:Rec) (k:Nat):∀ x4 x5 x6 x7 x8 H,j3 rec k x4 x5 x6 x7 x8 H=ex PP o rec k (sub body [1,1,1,1,1,1,1,1,1]) (St.of 90 [(4,.int .i64 x4),(5,.sl 1 x5),(6,.bool x6),(7,.sl 1 x7),(8,.sl 1 x8)] []) H (kAt PP o rec k body [1,1,1,1,1,1,1,1,1] [] (K0 PP Go.Proofs.Try.f5)):=by
 intros x4 x5 x6 x7 x8 H
 unfold j3
 kernel_rfl
theorem l2_eq (rec:Rec) (k:Nat):∀ n x3 x4 x5 x6 x7 x8 x9 H,l2 rec k n x3 x4 x5 x6 x7 x8 x9 H=iter (o.at (lbody (sub body [1,1,1,1,1,1,1,1,0,1,0]))) (ex PP o rec k (lbody (sub body [1,1,1,1,1,1,1,1,0,1,0]))) (kAt PP o rec k body [1,1,1,1,1,1,1,1,0,1,0] [] (K0 PP Go.Proofs.Try.f5)) n (St.of 90 [(3,.sl 1 x3),(4,.int .i64 x4),(5,.sl 1 x5),(6,.bool x6),(7,.sl 1 x7),(8,.sl 1 x8),(9,.int .i64 x9)] []) H:=by
 intro n
 induction n with
 | zero=>intros; rfl
 | succ n ih=>
  intros x3 x4 x5 x6 x7 x8 x9 H
  simp only [l2,j3_eq rec k,ih,-eq_self]
  kernel_rfl
theorem j1_eq (rec:Rec) (k:Nat):∀ x3 x4 x5 x6 H,j1 rec k x3 x4 x5 x6 H=ex PP o rec k (sub body [1,1,1,1,1,1]) (St.of 90 [(3,.sl 1 x3),(4,.int .i64 x4),(5,.sl 1 x5),(6,.bool x6)] []) H (kAt PP o rec k body [1,1,1,1,1,1] [] (K0 PP Go.Proofs.Try.f5)):=by
 intros x3 x4 x5 x6 H
 unfold j1
 try simp only [l2_eq rec k,-eq_self]
 kernel_rfl
theorem j0_eq (rec:Rec) (k:Nat):∀ x3 x4 x5 x6 x38 H,j0 rec k x3 x4 x5 x6 x38 H=ex PP o rec k (sub body [1,1,1,1,1,0,1]) (St.of 90 [(3,.sl 1 x3),(4,.int .i64 x4),(5,.sl 1 x5),(6,.bool x6),(38,.bool x38)] []) H (kAt PP o rec k body [1,1,1,1,1,0,1] [] (K0 PP Go.Proofs.Try.f5)):=by
 intros x3 x4 x5 x6 x38 H
 unfold j0
 try simp only [j1_eq rec k,-eq_self]
 kernel_rfl
theorem f_eq (rec:Rec) (k:Nat):∀ a0 H,f rec k a0 H=ex PP o rec k body (St.of 90 [(0,.sl 1 a0)] []) H (K0 PP Go.Proofs.Try.f5):=by
 intros a0 H
 unfold f
 try simp only [j0_eq rec k,-eq_self]
 kernel_rfl
theorem call (k:Nat):∀ a0 H,callF PP orc (k + 1) laws_FnMasksHave.id [.sl 1 a0] H=f (callF PP orc k) k a0 H:=by
 intros a0 H
 rw [callF_at (fn:=Go.Proofs.Try.f5) (c:=body) Go.Proofs.Try.func5 (by kernel_rfl) (Nat.le_of_ble_eq_true (by kernel_rfl)),f_eq]
 kernel_rfl
end laws_FnMasksHave
end Go.Proofs.Ytjojhbdghhmeeaa.Rp
