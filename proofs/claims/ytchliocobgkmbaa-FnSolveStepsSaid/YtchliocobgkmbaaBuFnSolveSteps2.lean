/- Texts for the row of the law FnSolveSteps, part 2: the plain machine, the program's functions on it, what they come to. No conditions. -/
import Derived.Test.YtchliocobgkmbaaAb
import Derived.Test.YtchliocobgkmbaaOr
set_option linter.unusedVariables false
set_option linter.unusedSimpArgs false
set_option maxRecDepth 100000
namespace Go.Proofs.Ytchliocobgkmbaa.Rp
open Go Go.Proofs.Ytchliocobgkmbaa.Ab
namespace spec_l20Open
noncomputable def body:Code:=(Go.Proofs.Try.f49).body.getD .skip
noncomputable def j0 (rec:Rec) (k:Nat) (x0:Sl) (H:Hp):An:=some (.ptr H.length 0,H ++ [some (Blk.mk false [.sl 1 x0,.int .i64 0])])
noncomputable def f (rec:Rec) (k:Nat) (a0:Sl) (H:Hp):An:=bif decide ((a0.len:Int) > 2000) then if (0 ≤ (0:Int)∧(0:Int) ≤ 2000∧(2000:Int) ≤ a0.len∧(2000:Int)=2000)∧0 < 1∧true=true then j0 rec k (Sl.mk a0.nil a0.blk (a0.off + (0:Int).toNat * 1) ((2000:Int) - 0).toNat) H else none else j0 rec k a0 H
theorem j0_eq (rec:Rec) (k:Nat):∀ x0 H,j0 rec k x0 H=ex PP (orc spec_l20Open.id) rec k (sub body [1,1]) (St.of 11 [(0,.sl 1 x0)] []) H (kAt PP (orc spec_l20Open.id) rec k body [1,1] [] (K0 PP Go.Proofs.Try.f49)):=by
 intros x0 H
 unfold j0
 kernel_rfl
theorem f_eq (rec:Rec) (k:Nat):∀ a0 H,f rec k a0 H=ex PP (orc spec_l20Open.id) rec k body (St.of 11 [(0,.sl 1 a0)] []) H (K0 PP Go.Proofs.Try.f49):=by
 intros a0 H
 unfold f
 try simp only [j0_eq rec k,-eq_self]
 kernel_rfl
theorem call (k:Nat):∀ a0 H,callF PP orc (k + 1) spec_l20Open.id [.sl 1 a0] H=f (callF PP orc k) k a0 H:=by
 intros a0 H
 rw [callF_at (fn:=Go.Proofs.Try.f49) (c:=body) Go.Proofs.Try.func49 (by kernel_rfl) (Nat.le_of_ble_eq_true (by kernel_rfl)),f_eq]
 kernel_rfl
end spec_l20Open
namespace spec_l20Rd_pick
noncomputable def body:Code:=(Go.Proofs.Try.f52).body.getD .skip
abbrev o:=orc spec_l20Rd_pick.id
noncomputable def j1 (rec:Rec) (k:Nat) (x0b:Nat) (x0o:Nat) (x1:Int) (H:Hp):An:=(ldI .i64 H x0b (x0o + 1)).bind fun n4=>(ldS 1 H x0b (x0o + 0)).bind fun s5=>bif decide ((IntKind.i64.wrap (n4 - 1)) < (s5.len:Int)) then (ldS 1 H x0b (x0o + 0)).bind fun s6=>bif decide (0 ≤ (IntKind.i64.wrap (n4 - 1):Int)) && decide ((IntKind.i64.wrap (n4 - 1):Int) < s6.len) then (ldI .u8 H s6.blk (s6.off + (IntKind.i64.wrap (n4 - 1):Int).toNat * 1)).bind fun n7=>if (x1:Int)=0 then none else some (.int .i64 ((IntKind.i64.wrap n7:Int).tmod x1),H) else none else (ldS 1 H x0b (x0o + 0)).bind fun s8=>(ldS 1 H x0b (x0o + 0)).bind fun s9=>if ((s9.len:Int):Int)=0 then none else bif decide (0 ≤ ((IntKind.i64.wrap (n4 - 1):Int).tmod (s9.len:Int):Int)) && decide (((IntKind.i64.wrap (n4 - 1):Int).tmod (s9.len:Int):Int) < s8.len) then (ldI .u8 H s8.blk (s8.off + ((IntKind.i64.wrap (n4 - 1):Int).tmod (s9.len:Int):Int).toNat * 1)).bind fun n10=>(ldS 1 H x0b (x0o + 0)).bind fun s11=>(ldS 1 H x0b (x0o + 0)).bind fun s12=>if ((s12.len:Int):Int)=0 then none else bif decide (0 ≤ ((IntKind.i64.wrap ((IntKind.i64.wrap ((IntKind.i64.wrap (n4 - 1)) * 7)) + 3):Int).tmod (s12.len:Int):Int)) && decide (((IntKind.i64.wrap ((IntKind.i64.wrap ((IntKind.i64.wrap (n4 - 1)) * 7)) + 3):Int).tmod (s12.len:Int):Int) < s11.len) then (ldI .u8 H s11.blk (s11.off + ((IntKind.i64.wrap ((IntKind.i64.wrap ((IntKind.i64.wrap (n4 - 1)) * 7)) + 3):Int).tmod (s12.len:Int):Int).toNat * 1)).bind fun n13=>(ldS 1 H x0b (x0o + 0)).bind fun s14=>if ((s14.len:Int):Int)=0 then none else if (x1:Int)=0 then none else some (.int .i64 ((IntKind.i64.wrap (((BitVec.ofInt IntKind.i64.bits (IntKind.i64.wrap ((IntKind.i64.wrap ((IntKind.i64.wrap ((IntKind.i64.wrap ((IntKind.i64.wrap n10) * 131)) + (IntKind.i64.wrap ((IntKind.i64.wrap n13) * 1117)))) + (IntKind.i64.wrap ((IntKind.i64.wrap (n4 - 1)) * 29)))) + (IntKind.i64.wrap ((IntKind.i64.wrap ((IntKind.i64.wrap (n4 - 1):Int).tdiv (s14.len:Int))) * 53)))) ^^^ BitVec.ofInt IntKind.i64.bits (IntKind.i64.wrap ((IntKind.i64.wrap ((IntKind.i64.wrap ((IntKind.i64.wrap ((IntKind.i64.wrap ((IntKind.i64.wrap n10) * 131)) + (IntKind.i64.wrap ((IntKind.i64.wrap n13) * 1117)))) + (IntKind.i64.wrap ((IntKind.i64.wrap (n4 - 1)) * 29)))) + (IntKind.i64.wrap ((IntKind.i64.wrap ((IntKind.i64.wrap (n4 - 1):Int).tdiv (s14.len:Int))) * 53))):Int).tdiv 64))).toNat:Int)):Int).tmod x1),H) else none else none
noncomputable def j0 (rec:Rec) (k:Nat) (x0b:Nat) (x0o:Nat) (x1:Int) (x24:Bool) (H:Hp):An:=bif x24 then some (.int .i64 0,H) else j1 rec k x0b x0o x1 H
noncomputable def f (rec:Rec) (k:Nat) (a0b:Nat) (a0o:Nat) (a1:Int) (H:Hp):An:=(ldI .i64 H a0b (a0o + 1)).bind fun n1=>(H.sto a0b (a0o + 1) [.int .i64 (IntKind.i64.wrap (n1 + 1))]).bind fun H2=>bif decide (a1 < 1) then j0 rec k a0b a0o a1 true H2 else (ldS 1 H2 a0b (a0o + 0)).bind fun s3=>j0 rec k a0b a0o a1 ((s3.len:Int) == 0) H2
theorem j1_eq (rec:Rec) (k:Nat):∀ x0b x0o x1 H,j1 rec k x0b x0o x1 H=ex PP o rec k (sub body [1,1,1]) (St.of 99 [(0,.ptr x0b x0o),(1,.int .i64 x1)] []) H (kAt PP o rec k body [1,1,1] [] (K0 PP Go.Proofs.Try.f52)):=by
 intros x0b x0o x1 H
 unfold j1
 kernel_rfl
theorem j0_eq (rec:Rec) (k:Nat):∀ x0b x0o x1 x24 H,j0 rec k x0b x0o x1 x24 H=ex PP o rec k (sub body [1,1,0,1]) (St.of 99 [(0,.ptr x0b x0o),(1,.int .i64 x1),(24,.bool x24)] []) H (kAt PP o rec k body [1,1,0,1] [] (K0 PP Go.Proofs.Try.f52)):=by
 intros x0b x0o x1 x24 H
 unfold j0
 try simp only [j1_eq rec k,-eq_self]
 kernel_rfl
theorem f_eq (rec:Rec) (k:Nat):∀ a0b a0o a1 H,f rec k a0b a0o a1 H=ex PP o rec k body (St.of 99 [(0,.ptr a0b a0o),(1,.int .i64 a1)] []) H (K0 PP Go.Proofs.Try.f52):=by
 intros a0b a0o a1 H
 unfold f
 try simp only [j0_eq rec k,-eq_self]
 kernel_rfl
theorem call (k:Nat):∀ a0b a0o a1 H,callF PP orc (k + 1) spec_l20Rd_pick.id [.ptr a0b a0o,.int .i64 a1] H=f (callF PP orc k) k a0b a0o a1 H:=by
 intros a0b a0o a1 H
 rw [callF_at (fn:=Go.Proofs.Try.f52) (c:=body) Go.Proofs.Try.func52 (by kernel_rfl) (Nat.le_of_ble_eq_true (by kernel_rfl)),f_eq]
 kernel_rfl
end spec_l20Rd_pick
namespace spec_l20Rd_odd
noncomputable def body:Code:=(Go.Proofs.Try.f93).body.getD .skip
noncomputable def f (rec:Rec) (k:Nat) (a0b:Nat) (a0o:Nat) (a1:Int) (H:Hp):An:=bif decide (a1 > 0) then (rec spec_l20Rd_pick.id [.ptr a0b a0o,.int .i64 a1] H).bind fun r1=>(r1.1.toI .i64).bind fun n2=>some (.bool (n2 == (IntKind.i64.wrap (a1 - 1))),r1.2) else some (.bool false,H)
theorem f_eq (rec:Rec) (k:Nat):∀ a0b a0o a1 H,f rec k a0b a0o a1 H=ex PP (orc spec_l20Rd_odd.id) rec k body (St.of 15 [(0,.ptr a0b a0o),(1,.int .i64 a1)] []) H (K0 PP Go.Proofs.Try.f93):=by
 intros a0b a0o a1 H
 unfold f
 kernel_rfl
theorem call (k:Nat):∀ a0b a0o a1 H,callF PP orc (k + 1) spec_l20Rd_odd.id [.ptr a0b a0o,.int .i64 a1] H=f (callF PP orc k) k a0b a0o a1 H:=by
 intros a0b a0o a1 H
 rw [callF_at (fn:=Go.Proofs.Try.f93) (c:=body) Go.Proofs.Try.func93 (by kernel_rfl) (Nat.le_of_ble_eq_true (by kernel_rfl)),f_eq]
 kernel_rfl
end spec_l20Rd_odd
namespace spec_l20Size
noncomputable def body:Code:=(Go.Proofs.Try.f86).body.getD .skip
noncomputable def f (rec:Rec) (k:Nat) (a0b:Nat) (a0o:Nat) (a1:Int) (H:Hp):An:=(rec spec_l20Rd_odd.id [.ptr a0b a0o,.int .i64 a1] H).bind fun r1=>r1.1.toB.bind fun b2=>bif b2 then (rec spec_l20Rd_pick.id [.ptr a0b a0o,.int .i64 3] (r1.2 ++ [some (Blk.mk false [.int .i64 1,.int .i64 5,.int .i64 (-1)])])).bind fun r3=>(r3.1.toI .i64).bind fun n4=>bif decide (0 ≤ (n4:Int)) && decide ((n4:Int) < (Sl.mk false r1.2.length 0 3).len) then (ldI .i64 r3.2 ((Sl.mk false r1.2.length 0 3).blk) ((Sl.mk false r1.2.length 0 3).off + (n4:Int).toNat * 1)).bind fun n5=>some (.int .i64 n5,r3.2) else none else (rec spec_l20Rd_pick.id [.ptr a0b a0o,.int .i64 5] (r1.2 ++ [some (Blk.mk false [.int .i64 2,.int .i64 3,.int .i64 3,.int .i64 4,.int .i64 4])])).bind fun r6=>(r6.1.toI .i64).bind fun n7=>bif decide (0 ≤ (n7:Int)) && decide ((n7:Int) < (Sl.mk false r1.2.length 0 5).len) then (ldI .i64 r6.2 ((Sl.mk false r1.2.length 0 5).blk) ((Sl.mk false r1.2.length 0 5).off + (n7:Int).toNat * 1)).bind fun n8=>some (.int .i64 n8,r6.2) else none
theorem f_eq (rec:Rec) (k:Nat):∀ a0b a0o a1 H,f rec k a0b a0o a1 H=ex PP (orc spec_l20Size.id) rec k body (St.of 18 [(0,.ptr a0b a0o),(1,.int .i64 a1)] []) H (K0 PP Go.Proofs.Try.f86):=by
 intros a0b a0o a1 H
 unfold f
 kernel_rfl
theorem call (k:Nat):∀ a0b a0o a1 H,callF PP orc (k + 1) spec_l20Size.id [.ptr a0b a0o,.int .i64 a1] H=f (callF PP orc k) k a0b a0o a1 H:=by
 intros a0b a0o a1 H
 rw [callF_at (fn:=Go.Proofs.Try.f86) (c:=body) Go.Proofs.Try.func86 (by kernel_rfl) (Nat.le_of_ble_eq_true (by kernel_rfl)),f_eq]
 kernel_rfl
end spec_l20Size
namespace spec_l20Solved
noncomputable def body:Code:=(Go.Proofs.Try.f87).body.getD .skip
noncomputable def f (rec:Rec) (k:Nat) (a0b:Nat) (a0o:Nat) (a1:Int) (H:Hp):An:=bif decide (0 ≤ (IntKind.i64.wrap (a1 - 2):Int)) && decide ((IntKind.i64.wrap (a1 - 2):Int) < (Sl.mk false H.length 0 3).len) then (ldI .i64 (H ++ [some (Blk.mk false [.int .i64 2,.int .i64 12,.int .i64 576])]) ((Sl.mk false H.length 0 3).blk) ((Sl.mk false H.length 0 3).off + (IntKind.i64.wrap (a1 - 2):Int).toNat * 1)).bind fun n1=>(rec spec_l20Rd_pick.id [.ptr a0b a0o,.int .i64 256] (H ++ [some (Blk.mk false [.int .i64 2,.int .i64 12,.int .i64 576])])).bind fun r2=>(r2.1.toI .i64).bind fun n3=>(rec spec_l20Rd_pick.id [.ptr a0b a0o,.int .i64 3] r2.2).bind fun r4=>(r4.1.toI .i64).bind fun n5=>if (n1:Int)=0 then none else (rec spec_SquareNumber.id [.int .i64 a1,.int .i64 ((IntKind.i64.wrap ((IntKind.i64.wrap (n3 * 3)) + n5):Int).tmod n1)] r4.2).bind fun r6=>(r6.1.toS 1).bind fun s7=>some (.sl 1 s7,r6.2) else none
theorem f_eq (rec:Rec) (k:Nat):∀ a0b a0o a1 H,f rec k a0b a0o a1 H=ex PP (orc spec_l20Solved.id) rec k body (St.of 21 [(0,.ptr a0b a0o),(1,.int .i64 a1)] []) H (K0 PP Go.Proofs.Try.f87):=by
 intros a0b a0o a1 H
 unfold f
 kernel_rfl
theorem call (k:Nat):∀ a0b a0o a1 H,callF PP orc (k + 1) spec_l20Solved.id [.ptr a0b a0o,.int .i64 a1] H=f (callF PP orc k) k a0b a0o a1 H:=by
 intros a0b a0o a1 H
 rw [callF_at (fn:=Go.Proofs.Try.f87) (c:=body) Go.Proofs.Try.func87 (by kernel_rfl) (Nat.le_of_ble_eq_true (by kernel_rfl)),f_eq]
 kernel_rfl
end spec_l20Solved
namespace spec_SquareNumber
noncomputable def body:Code:=(Go.Proofs.Try.f109).body.getD .skip
abbrev o:=orc spec_SquareNumber.id
noncomputable def j1 (rec:Rec) (k:Nat) (x0:Int) (x1:Int) (H:Hp):An:=((H ++ [some (Blk.mk false [.int .i64 0])]).sto H.length 0 [.int .i64 x1]).bind fun H3=>if 0 ≤ (IntKind.i64.wrap (x0 * x0):Int)∧(IntKind.i64.wrap (x0 * x0):Int) ≤ IntKind.i64.wrap (x0 * x0)∧(IntKind.i64.wrap (x0 * x0):Int) ≤ 1073741824∧8 ≤ 8192∧0 < 1 then (rec spec_l2Search.id [.sl 1 (Sl.mk false H3.length 0 (IntKind.i64.wrap (x0 * x0):Int).toNat),.int .i64 x0,.int .i64 0,.ptr H.length 0] (H3 ++ [some (Blk.mk false (List.replicate (IntKind.i64.wrap (x0 * x0):Int).toNat [.int .i64 0]).flatten)])).bind fun r4=>(r4.1.toS 1).bind fun s5=>(r4.2.read 1 s5).bind fun c7=>(r4.2.appl 1 [] 0 s5.len c7).bind fun w6=>bif true && c7.all AV.cell then some (.sl 1 w6.1,w6.2) else none else none
noncomputable def j0 (rec:Rec) (k:Nat) (x0:Int) (x1:Int) (x14:Bool) (H:Hp):An:=bif x14 then some (.sl 1 (Sl.mk false H.length 0 0),H ++ [some (Blk.mk false [])]) else j1 rec k x0 x1 H
noncomputable def f (rec:Rec) (k:Nat) (a0:Int) (a1:Int) (H:Hp):An:=(rec spec_l1In.id [.int .i64 a0,.int .i64 2,.int .i64 4] H).bind fun r1=>r1.1.toB.bind fun b2=>bif !b2 then j0 rec k a0 a1 true r1.2 else j0 rec k a0 a1 (decide (a1 < 0)) r1.2
theorem j1_eq (rec:Rec) (k:Nat):∀ x0 x1 H,j1 rec k x0 x1 H=ex PP o rec k (sub body [1,1]) (St.of 27 [(0,.int .i64 x0),(1,.int .i64 x1)] []) H (kAt PP o rec k body [1,1] [] (K0 PP Go.Proofs.Try.f109)):=by
 intros x0 x1 H
 unfold j1
 kernel_rfl
theorem j0_eq (rec:Rec) (k:Nat):∀ x0 x1 x14 H,j0 rec k x0 x1 x14 H=ex PP o rec k (sub body [1,0,1]) (St.of 27 [(0,.int .i64 x0),(1,.int .i64 x1),(14,.bool x14)] []) H (kAt PP o rec k body [1,0,1] [] (K0 PP Go.Proofs.Try.f109)):=by
 intros x0 x1 x14 H
 unfold j0
 try simp only [j1_eq rec k,-eq_self]
 kernel_rfl
theorem f_eq (rec:Rec) (k:Nat):∀ a0 a1 H,f rec k a0 a1 H=ex PP o rec k body (St.of 27 [(0,.int .i64 a0),(1,.int .i64 a1)] []) H (K0 PP Go.Proofs.Try.f109):=by
 intros a0 a1 H
 unfold f
 try simp only [j0_eq rec k,-eq_self]
 kernel_rfl
theorem call (k:Nat):∀ a0 a1 H,callF PP orc (k + 1) spec_SquareNumber.id [.int .i64 a0,.int .i64 a1] H=f (callF PP orc k) k a0 a1 H:=by
 intros a0 a1 H
 rw [callF_at (fn:=Go.Proofs.Try.f109) (c:=body) Go.Proofs.Try.func109 (by kernel_rfl) (Nat.le_of_ble_eq_true (by kernel_rfl)),f_eq]
 kernel_rfl
end spec_SquareNumber
namespace spec_l2Search
noncomputable def body:Code:=(Go.Proofs.Try.f123).body.getD .skip
abbrev o:=orc spec_l2Search.id
noncomputable def j1 (rec:Rec) (k:Nat) (L0:Sl→Int→Int→Nat→Nat→Int→Hp→An) (x0:Sl) (x1:Int) (x2:Int) (x3b:Nat) (x3o:Nat) (x9:Int) (H:Hp):An:=L0 x0 x1 x2 x3b x3o (IntKind.i64.wrap (x9 + 1)) H
noncomputable def l0 (rec:Rec) (k:Nat):Nat→Sl→Int→Int→Nat→Nat→Int→Hp→An
 | 0,_,_,_,_,_,_,_=>none
 | n + 1,x0,x1,x2,x3b,x3o,x9,H=>bif decide (x9 ≤ x1) then (H.read 1 x0).bind fun c5=>(H.appl 1 [] 0 x0.len c5).bind fun w4=>bif true && c5.all AV.cell then bif decide (0 ≤ (x2:Int)) && decide ((x2:Int) < w4.1.len) then (w4.2.sto w4.1.blk (w4.1.off + (x2:Int).toNat * 1) [.int .i64 x9]).bind fun H6=>(rec spec_l2Clash.id [.sl 1 w4.1,.int .i64 x1] H6).bind fun r7=>r7.1.toB.bind fun b8=>bif b8 then j1 rec k (l0 rec k n) x0 x1 x2 x3b x3o x9 r7.2 else (rec spec_l2Search.id [.sl 1 w4.1,.int .i64 x1,.int .i64 (IntKind.i64.wrap (x2 + 1)),.ptr x3b x3o] r7.2).bind fun r9=>(r9.1.toS 1).bind fun s10=>bif decide ((s10.len:Int) > 0) then some (.sl 1 s10,r9.2) else j1 rec k (l0 rec k n) x0 x1 x2 x3b x3o x9 r9.2 else none else none else some (.sl 1 Sl.none,H)
noncomputable def f (rec:Rec) (k:Nat) (a0:Sl) (a1:Int) (a2:Int) (a3b:Nat) (a3o:Nat) (H:Hp):An:=bif a2 == (a0.len:Int) then (ldI .i64 H a3b a3o).bind fun n1=>bif n1 == 0 then some (.sl 1 a0,H) else (ldI .i64 H a3b a3o).bind fun n2=>(H.sto a3b a3o [.int .i64 (IntKind.i64.wrap (n2 - 1))]).bind fun H3=>some (.sl 1 Sl.none,H3) else l0 rec k k a0 a1 a2 a3b a3o 1 H
theorem j1_eq (rec:Rec) (k:Nat) (n0:Nat) (L0:Sl→Int→Int→Nat→Nat→Int→Hp→An) (hL0:∀ x0 x1 x2 x3b x3o x9 H,L0 x0 x1 x2 x3b x3o x9 H=iter (o.at (lbody (sub body [1,1,0,1,0]))) (ex PP o rec k (lbody (sub body [1,1,0,1,0]))) (kAt PP o rec k body [1,1,0,1,0] [] (K0 PP Go.Proofs.Try.f123)) n0 (St.of 52 [(0,.sl 1 x0),(1,.int .i64 x1),(2,.int .i64 x2),(3,.ptr x3b x3o),(9,.int .i64 x9)] []) H):∀ x0 x1 x2 x3b x3o x9 H,j1 rec k L0 x0 x1 x2 x3b x3o x9 H=ex PP o rec k (sub body [1,1,0,1,0,0,1,1]) (St.of 52 [(0,.sl 1 x0),(1,.int .i64 x1),(2,.int .i64 x2),(3,.ptr x3b x3o),(9,.int .i64 x9)] []) H (kAt PP o rec k body [1,1,0,1,0,0,1,1] [n0] (K0 PP Go.Proofs.Try.f123)):=by
 intros x0 x1 x2 x3b x3o x9 H
 unfold j1
 try simp only [hL0,-eq_self]
 kernel_rfl
theorem l0_eq (rec:Rec) (k:Nat):∀ n x0 x1 x2 x3b x3o x9 H,l0 rec k n x0 x1 x2 x3b x3o x9 H=iter (o.at (lbody (sub body [1,1,0,1,0]))) (ex PP o rec k (lbody (sub body [1,1,0,1,0]))) (kAt PP o rec k body [1,1,0,1,0] [] (K0 PP Go.Proofs.Try.f123)) n (St.of 52 [(0,.sl 1 x0),(1,.int .i64 x1),(2,.int .i64 x2),(3,.ptr x3b x3o),(9,.int .i64 x9)] []) H:=by
 intro n
 induction n with
 | zero=>intros; rfl
 | succ n ih=>
  intros x0 x1 x2 x3b x3o x9 H
  simp only [l0,j1_eq rec k n (l0 rec k n) (fun x0 x1 x2 x3b x3o x9 H=>ih x0 x1 x2 x3b x3o x9 H),ih,-eq_self]
  kernel_rfl
theorem f_eq (rec:Rec) (k:Nat):∀ a0 a1 a2 a3b a3o H,f rec k a0 a1 a2 a3b a3o H=ex PP o rec k body (St.of 52 [(0,.sl 1 a0),(1,.int .i64 a1),(2,.int .i64 a2),(3,.ptr a3b a3o)] []) H (K0 PP Go.Proofs.Try.f123):=by
 intros a0 a1 a2 a3b a3o H
 unfold f
 try simp only [l0_eq rec k,-eq_self]
 kernel_rfl
theorem call (k:Nat):∀ a0 a1 a2 a3b a3o H,callF PP orc (k + 1) spec_l2Search.id [.sl 1 a0,.int .i64 a1,.int .i64 a2,.ptr a3b a3o] H=f (callF PP orc k) k a0 a1 a2 a3b a3o H:=by
 intros a0 a1 a2 a3b a3o H
 rw [callF_at (fn:=Go.Proofs.Try.f123) (c:=body) Go.Proofs.Try.func123 (by kernel_rfl) (Nat.le_of_ble_eq_true (by kernel_rfl)),f_eq]
 kernel_rfl
end spec_l2Search
end Go.Proofs.Ytchliocobgkmbaa.Rp
