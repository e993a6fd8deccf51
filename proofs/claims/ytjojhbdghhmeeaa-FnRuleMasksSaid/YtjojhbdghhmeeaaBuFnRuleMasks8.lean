/- Texts for the row of the law FnRuleMasks, part 8: the plain machine, the program's functions on it, what they come to. No conditions. -/
import Derived.Test.YtjojhbdghhmeeaaAb
import Derived.Test.YtjojhbdghhmeeaaOr
import Derived.Test.YtjojhbdghhmeeaaAk
set_option linter.unusedVariables false
set_option linter.unusedSimpArgs false
set_option maxRecDepth 100000
namespace Go.Proofs.Ytjojhbdghhmeeaa.Rp
open Go Go.Proofs.Ytjojhbdghhmeeaa.Ab
namespace spec_NarrowRules
noncomputable def body:Code:=(Go.Proofs.Try.f106).body.getD .skip
abbrev o:=orc spec_NarrowRules.id
abbrev TL2:=Sl→Int→Int→Sl→Sl→Hp→An
abbrev PhL2 (rec:Rec) (k n2:Nat) (L2:TL2):Prop:=∀ x5 x6 y2_0 y2_1 y2_2 H,L2 x5 x6 y2_0 y2_1 y2_2 H=iter (o.at (lbody (sub body [1,1,1,0,1,0]))) (ex PP o rec k (lbody (sub body [1,1,1,0,1,0]))) (kAt PP o rec k body [1,1,1,0,1,0] [] (K0 PP Go.Proofs.Try.f106)) n2 (St.of 59 [(2,.lp 2 0),(5,.sl 1 x5),(6,.int .i64 x6)] [(2,[.int .i64 y2_0,.sl 1 y2_1,.sl 3 y2_2])]) H
noncomputable def j4 (rec:Rec) (k:Nat) (x5:Sl) (H:Hp):An:=some (.sl 1 x5,H)
noncomputable def j5 (rec:Rec) (k:Nat) (L2:TL2) (x5:Sl) (x6:Int) (y2_0:Int) (y2_1:Sl) (y2_2:Sl) (H:Hp):An:=L2 x5 (IntKind.i64.wrap (x6 + 1)) y2_0 y2_1 y2_2 H
noncomputable def l3 (rec:Rec) (k:Nat) (L2:TL2):Nat→Sl→Int→Sl→Int→Int→Sl→Sl→Int→Sl→Int→Hp→An
 | 0,_,_,_,_,_,_,_,_,_,_,_=>none
 | n + 1,x5,x6,x8,x9,y2_0,y2_1,y2_2,y7_0,y7_1,y7_2,H=>bif decide (x9 < (y7_1.len:Int)) then bif decide (0 ≤ (x9:Int)) && decide ((x9:Int) < y7_1.len) then (ldI .i64 H y7_1.blk (y7_1.off + (x9:Int).toNat * 1)).bind fun n12=>bif decide (0 ≤ (x9:Int)) && decide ((x9:Int) < x8.len) then (ldI .i64 H x8.blk (x8.off + (x9:Int).toNat * 1)).bind fun n13=>bif decide (0 ≤ (n12:Int)) && decide ((n12:Int) < x5.len) then (H.sto x5.blk (x5.off + (n12:Int).toNat * 1) [.int .i64 n13]).bind fun H14=>(l3 rec k L2 n) x5 x6 x8 (IntKind.i64.wrap (x9 + 1)) y2_0 y2_1 y2_2 y7_0 y7_1 y7_2 H14 else none else none else none else j5 rec k L2 x5 x6 y2_0 y2_1 y2_2 H
noncomputable def l2 (rec:Rec) (k:Nat):Nat→Sl→Int→Int→Sl→Sl→Hp→An
 | 0,_,_,_,_,_,_=>none
 | n + 1,x5,x6,y2_0,y2_1,y2_2,H=>bif decide (x6 < (y2_2.len:Int)) then bif decide (0 ≤ (x6:Int)) && decide ((x6:Int) < y2_2.len) then (ldI .i64 H y2_2.blk (y2_2.off + (x6:Int).toNat * 3)).bind fun n7=>(ldS 1 H y2_2.blk (y2_2.off + (x6:Int).toNat * 3 + 1)).bind fun s8=>(ldI .i64 H y2_2.blk (y2_2.off + (x6:Int).toNat * 3 + 1 + 1)).bind fun n9=>(rec spec_RuleMasks.id [.agg [.int .i64 n7,.sl 1 s8,.int .i64 n9],.sl 1 x5,.int .i64 y2_0] H).bind fun r10=>(r10.1.toS 1).bind fun s11=>l3 rec k (l2 rec k n) k x5 x6 s11 0 y2_0 y2_1 y2_2 n7 s8 n9 r10.2 else none else j4 rec k x5 H
noncomputable def j1 (rec:Rec) (k:Nat) (x1:Sl) (y2_0:Int) (y2_1:Sl) (y2_2:Sl) (H:Hp):An:=(rec spec_l6Copy.id [.sl 1 x1] H).bind fun r5=>(r5.1.toS 1).bind fun s6=>l2 rec k k s6 0 y2_0 y2_1 y2_2 r5.2
noncomputable def j0 (rec:Rec) (k:Nat) (x1:Sl) (x19:Bool) (y2_0:Int) (y2_1:Sl) (y2_2:Sl) (H:Hp):An:=bif x19 then some (.sl 1 (Sl.mk false H.length 0 0),H ++ [some (Blk.mk false [])]) else j1 rec k x1 y2_0 y2_1 y2_2 H
noncomputable def f (rec:Rec) (k:Nat) (a0_0:Int) (a0_1:Sl) (a0_2:Sl) (a1:Sl) (H:Hp):An:=(rec spec_PuzzleValid.id [.agg [.int .i64 a0_0,.sl 1 a0_1,.sl 3 a0_2]] H).bind fun r1=>r1.1.toB.bind fun b2=>bif !b2 then j0 rec k a1 true a0_0 a0_1 a0_2 r1.2 else (rec spec_MasksValid.id [.sl 1 a1,.int .i64 a0_0] r1.2).bind fun r3=>r3.1.toB.bind fun b4=>j0 rec k a1 (!b4) a0_0 a0_1 a0_2 r3.2
theorem j4_eq (rec:Rec) (k:Nat):∀ x5 H,j4 rec k x5 H=ex PP o rec k (sub body [1,1,1,1]) (St.of 59 [(5,.sl 1 x5)] []) H (kAt PP o rec k body [1,1,1,1] [] (K0 PP Go.Proofs.Try.f106)):=by
 intros x5 H
 unfold j4
 kernel_rfl
theorem j5_eq (rec:Rec) (k:Nat) (n2:Nat) (L2:TL2) (hL2:PhL2 rec k n2 L2):∀ x5 x6 y2_0 y2_1 y2_2 H,j5 rec k L2 x5 x6 y2_0 y2_1 y2_2 H=ex PP o rec k (sub body [1,1,1,0,1,0,0,1,1]) (St.of 59 [(2,.lp 2 0),(5,.sl 1 x5),(6,.int .i64 x6)] [(2,[.int .i64 y2_0,.sl 1 y2_1,.sl 3 y2_2])]) H (kAt PP o rec k body [1,1,1,0,1,0,0,1,1] [n2] (K0 PP Go.Proofs.Try.f106)):=by
 intros x5 x6 y2_0 y2_1 y2_2 H
 unfold j5
 try simp only [hL2,-eq_self]
 kernel_rfl
theorem l3_eq (rec:Rec) (k:Nat) (n2:Nat) (L2:TL2) (hL2:PhL2 rec k n2 L2):∀ n x5 x6 x8 x9 y2_0 y2_1 y2_2 y7_0 y7_1 y7_2 H,l3 rec k L2 n x5 x6 x8 x9 y2_0 y2_1 y2_2 y7_0 y7_1 y7_2 H=iter (o.at (lbody (sub body [1,1,1,0,1,0,0,1,0,0,1,1,1,0]))) (ex PP o rec k (lbody (sub body [1,1,1,0,1,0,0,1,0,0,1,1,1,0]))) (kAt PP o rec k body [1,1,1,0,1,0,0,1,0,0,1,1,1,0] [n2] (K0 PP Go.Proofs.Try.f106)) n (St.of 59 [(2,.lp 2 0),(5,.sl 1 x5),(6,.int .i64 x6),(7,.lp 7 0),(8,.sl 1 x8),(9,.int .i64 x9)] [(2,[.int .i64 y2_0,.sl 1 y2_1,.sl 3 y2_2]),(7,[.int .i64 y7_0,.sl 1 y7_1,.int .i64 y7_2])]) H:=by
 intro n
 induction n with
 | zero=>intros; rfl
 | succ n ih=>
  intros x5 x6 x8 x9 y2_0 y2_1 y2_2 y7_0 y7_1 y7_2 H
  simp only [l3,hL2,j5_eq rec k n2 L2 hL2,ih,-eq_self]
  kernel_rfl
theorem l2_eq (rec:Rec) (k:Nat):∀ n x5 x6 y2_0 y2_1 y2_2 H,l2 rec k n x5 x6 y2_0 y2_1 y2_2 H=iter (o.at (lbody (sub body [1,1,1,0,1,0]))) (ex PP o rec k (lbody (sub body [1,1,1,0,1,0]))) (kAt PP o rec k body [1,1,1,0,1,0] [] (K0 PP Go.Proofs.Try.f106)) n (St.of 59 [(2,.lp 2 0),(5,.sl 1 x5),(6,.int .i64 x6)] [(2,[.int .i64 y2_0,.sl 1 y2_1,.sl 3 y2_2])]) H:=by
 intro n
 induction n with
 | zero=>intros; rfl
 | succ n ih=>
  intros x5 x6 y2_0 y2_1 y2_2 H
  simp only [l2,l3_eq rec k n (l2 rec k n) (fun x5 x6 y2_0 y2_1 y2_2 H=>ih x5 x6 y2_0 y2_1 y2_2 H),j4_eq rec k,ih,-eq_self]
  kernel_rfl
theorem j1_eq (rec:Rec) (k:Nat):∀ x1 y2_0 y2_1 y2_2 H,j1 rec k x1 y2_0 y2_1 y2_2 H=ex PP o rec k (sub body [1,1]) (St.of 59 [(1,.sl 1 x1),(2,.lp 2 0)] [(2,[.int .i64 y2_0,.sl 1 y2_1,.sl 3 y2_2])]) H (kAt PP o rec k body [1,1] [] (K0 PP Go.Proofs.Try.f106)):=by
 intros x1 y2_0 y2_1 y2_2 H
 unfold j1
 try simp only [l2_eq rec k,-eq_self]
 kernel_rfl
theorem j0_eq (rec:Rec) (k:Nat):∀ x1 x19 y2_0 y2_1 y2_2 H,j0 rec k x1 x19 y2_0 y2_1 y2_2 H=ex PP o rec k (sub body [1,0,1]) (St.of 59 [(1,.sl 1 x1),(2,.lp 2 0),(19,.bool x19)] [(2,[.int .i64 y2_0,.sl 1 y2_1,.sl 3 y2_2])]) H (kAt PP o rec k body [1,0,1] [] (K0 PP Go.Proofs.Try.f106)):=by
 intros x1 x19 y2_0 y2_1 y2_2 H
 unfold j0
 try simp only [j1_eq rec k,-eq_self]
 kernel_rfl
theorem f_eq (rec:Rec) (k:Nat):∀ a0_0 a0_1 a0_2 a1 H,f rec k a0_0 a0_1 a0_2 a1 H=ex PP o rec k body (St.of 59 [(0,.agg [.int .i64 a0_0,.sl 1 a0_1,.sl 3 a0_2]),(1,.sl 1 a1)] []) H (K0 PP Go.Proofs.Try.f106):=by
 intros a0_0 a0_1 a0_2 a1 H
 unfold f
 try simp only [j0_eq rec k,-eq_self]
 kernel_rfl
theorem call (k:Nat):∀ a0_0 a0_1 a0_2 a1 H,callF PP orc (k + 1) spec_NarrowRules.id [.agg [.int .i64 a0_0,.sl 1 a0_1,.sl 3 a0_2],.sl 1 a1] H=f (callF PP orc k) k a0_0 a0_1 a0_2 a1 H:=by
 intros a0_0 a0_1 a0_2 a1 H
 rw [callF_at (fn:=Go.Proofs.Try.f106) (c:=body) Go.Proofs.Try.func106 (by kernel_rfl) (Nat.le_of_ble_eq_true (by kernel_rfl)),f_eq]
 kernel_rfl
end spec_NarrowRules
namespace spec_l8Same
noncomputable def body:Code:=(Go.Proofs.Try.f125).body.getD .skip
abbrev o:=orc spec_l8Same.id
noncomputable def l0 (rec:Rec) (k:Nat):Nat→Sl→Sl→Int→Hp→An
 | 0,_,_,_,_=>none
 | n + 1,x0,x1,x5,H=>bif decide (x5 < (x0.len:Int)) then bif decide (0 ≤ (x5:Int)) && decide ((x5:Int) < x0.len) then (ldI .i64 H x0.blk (x0.off + (x5:Int).toNat * 1)).bind fun n1=>bif decide (0 ≤ (x5:Int)) && decide ((x5:Int) < x1.len) then (ldI .i64 H x1.blk (x1.off + (x5:Int).toNat * 1)).bind fun n2=>bif n1 != n2 then some (.bool false,H) else (l0 rec k n) x0 x1 (IntKind.i64.wrap (x5 + 1)) H else none else none else some (.bool true,H)
noncomputable def f (rec:Rec) (k:Nat) (a0:Sl) (a1:Sl) (H:Hp):An:=bif (a0.len:Int) != (a1.len:Int) then some (.bool false,H) else l0 rec k k a0 a1 0 H
theorem l0_eq (rec:Rec) (k:Nat):∀ n x0 x1 x5 H,l0 rec k n x0 x1 x5 H=iter (o.at (lbody (sub body [1,1,0,1,0]))) (ex PP o rec k (lbody (sub body [1,1,0,1,0]))) (kAt PP o rec k body [1,1,0,1,0] [] (K0 PP Go.Proofs.Try.f125)) n (St.of 26 [(0,.sl 1 x0),(1,.sl 1 x1),(5,.int .i64 x5)] []) H:=by
 intro n
 induction n with
 | zero=>intros; rfl
 | succ n ih=>
  intros x0 x1 x5 H
  simp only [l0,ih,-eq_self]
  kernel_rfl
theorem f_eq (rec:Rec) (k:Nat):∀ a0 a1 H,f rec k a0 a1 H=ex PP o rec k body (St.of 26 [(0,.sl 1 a0),(1,.sl 1 a1)] []) H (K0 PP Go.Proofs.Try.f125):=by
 intros a0 a1 H
 unfold f
 try simp only [l0_eq rec k,-eq_self]
 kernel_rfl
theorem call (k:Nat):∀ a0 a1 H,callF PP orc (k + 1) spec_l8Same.id [.sl 1 a0,.sl 1 a1] H=f (callF PP orc k) k a0 a1 H:=by
 intros a0 a1 H
 rw [callF_at (fn:=Go.Proofs.Try.f125) (c:=body) Go.Proofs.Try.func125 (by kernel_rfl) (Nat.le_of_ble_eq_true (by kernel_rfl)),f_eq]
 kernel_rfl
end spec_l8Same
namespace spec_NarrowBy
noncomputable def body:Code:=(Go.Proofs.Try.f72).body.getD .skip
abbrev o:=orc spec_NarrowBy.id
noncomputable def j1 (rec:Rec) (k:Nat) (x1:Sl) (x2:Int) (y3_0:Int) (y3_1:Sl) (y3_2:Sl) (H:Hp):An:=bif x2 == 1 then (rec spec_NarrowSingles.id [.sl 1 x1,.int .i64 y3_0] H).bind fun r5=>(r5.1.toS 1).bind fun s6=>some (.sl 1 s6,r5.2) else bif x2 == 2 then (rec spec_NarrowHidden.id [.sl 1 x1,.int .i64 y3_0] H).bind fun r7=>(r7.1.toS 1).bind fun s8=>some (.sl 1 s8,r7.2) else bif x2 == 3 then (rec spec_NarrowPairs.id [.sl 1 x1,.int .i64 y3_0] H).bind fun r9=>(r9.1.toS 1).bind fun s10=>some (.sl 1 s10,r9.2) else bif x2 == 4 then (rec spec_NarrowRules.id [.agg [.int .i64 y3_0,.sl 1 y3_1,.sl 3 y3_2],.sl 1 x1] H).bind fun r11=>(r11.1.toS 1).bind fun s12=>some (.sl 1 s12,r11.2) else some (.sl 1 (Sl.mk false H.length 0 0),H ++ [some (Blk.mk false [])])
noncomputable def j0 (rec:Rec) (k:Nat) (x1:Sl) (x2:Int) (x16:Bool) (y3_0:Int) (y3_1:Sl) (y3_2:Sl) (H:Hp):An:=bif x16 then some (.sl 1 (Sl.mk false H.length 0 0),H ++ [some (Blk.mk false [])]) else j1 rec k x1 x2 y3_0 y3_1 y3_2 H
noncomputable def f (rec:Rec) (k:Nat) (a0_0:Int) (a0_1:Sl) (a0_2:Sl) (a1:Sl) (a2:Int) (H:Hp):An:=(rec spec_PuzzleValid.id [.agg [.int .i64 a0_0,.sl 1 a0_1,.sl 3 a0_2]] H).bind fun r1=>r1.1.toB.bind fun b2=>bif !b2 then j0 rec k a1 a2 true a0_0 a0_1 a0_2 r1.2 else (rec spec_MasksValid.id [.sl 1 a1,.int .i64 a0_0] r1.2).bind fun r3=>r3.1.toB.bind fun b4=>j0 rec k a1 a2 (!b4) a0_0 a0_1 a0_2 r3.2
theorem j1_eq (rec:Rec) (k:Nat):∀ x1 x2 y3_0 y3_1 y3_2 H,j1 rec k x1 x2 y3_0 y3_1 y3_2 H=ex PP o rec k (sub body [1,1]) (St.of 43 [(1,.sl 1 x1),(2,.int .i64 x2),(3,.lp 3 0)] [(3,[.int .i64 y3_0,.sl 1 y3_1,.sl 3 y3_2])]) H (kAt PP o rec k body [1,1] [] (K0 PP Go.Proofs.Try.f72)):=by
 intros x1 x2 y3_0 y3_1 y3_2 H
 unfold j1
 kernel_rfl
theorem j0_eq (rec:Rec) (k:Nat):∀ x1 x2 x16 y3_0 y3_1 y3_2 H,j0 rec k x1 x2 x16 y3_0 y3_1 y3_2 H=ex PP o rec k (sub body [1,0,1]) (St.of 43 [(1,.sl 1 x1),(2,.int .i64 x2),(3,.lp 3 0),(16,.bool x16)] [(3,[.int .i64 y3_0,.sl 1 y3_1,.sl 3 y3_2])]) H (kAt PP o rec k body [1,0,1] [] (K0 PP Go.Proofs.Try.f72)):=by
 intros x1 x2 x16 y3_0 y3_1 y3_2 H
 unfold j0
 try simp only [j1_eq rec k,-eq_self]
 kernel_rfl
theorem f_eq (rec:Rec) (k:Nat):∀ a0_0 a0_1 a0_2 a1 a2 H,f rec k a0_0 a0_1 a0_2 a1 a2 H=ex PP o rec k body (St.of 43 [(0,.agg [.int .i64 a0_0,.sl 1 a0_1,.sl 3 a0_2]),(1,.sl 1 a1),(2,.int .i64 a2)] []) H (K0 PP Go.Proofs.Try.f72):=by
 intros a0_0 a0_1 a0_2 a1 a2 H
 unfold f
 try simp only [j0_eq rec k,-eq_self]
 kernel_rfl
theorem call (k:Nat):∀ a0_0 a0_1 a0_2 a1 a2 H,callF PP orc (k + 1) spec_NarrowBy.id [.agg [.int .i64 a0_0,.sl 1 a0_1,.sl 3 a0_2],.sl 1 a1,.int .i64 a2] H=f (callF PP orc k) k a0_0 a0_1 a0_2 a1 a2 H:=by
 intros a0_0 a0_1 a0_2 a1 a2 H
 rw [callF_at (fn:=Go.Proofs.Try.f72) (c:=body) Go.Proofs.Try.func72 (by kernel_rfl) (Nat.le_of_ble_eq_true (by kernel_rfl)),f_eq]
 kernel_rfl
end spec_NarrowBy
namespace spec_NarrowAll
noncomputable def body:Code:=(Go.Proofs.Try.f115).body.getD .skip
abbrev o:=orc spec_NarrowAll.id
noncomputable def j3 (rec:Rec) (k:Nat) (x8:Sl) (x9:Int) (H:Hp):An:=some (.tup [.sl 1 x8,.int .i64 x9],H)
noncomputable def l2 (rec:Rec) (k:Nat):Nat→Int→Sl→Int→Int→Int→Sl→Sl→Hp→An
 | 0,_,_,_,_,_,_,_,_=>none
 | n + 1,x2,x8,x9,x10,y3_0,y3_1,y3_2,H=>bif decide (x10 ≤ x2) then (rec spec_NarrowBy.id [.agg [.int .i64 y3_0,.sl 1 y3_1,.sl 3 y3_2],.sl 1 x8,.int .i64 x10] H).bind fun r9=>(r9.1.toS 1).bind fun s10=>(rec spec_l8Same.id [.sl 1 s10,.sl 1 x8] r9.2).bind fun r11=>r11.1.toB.bind fun b12=>bif b12 then (l2 rec k n) x2 x8 x9 (IntKind.i64.wrap (x10 + 1)) y3_0 y3_1 y3_2 r11.2 else (l2 rec k n) x2 s10 (IntKind.i64.wrap (x9 + 1)) 1 y3_0 y3_1 y3_2 r11.2 else j3 rec k x8 x9 H
noncomputable def j1 (rec:Rec) (k:Nat) (x1:Sl) (x2:Int) (y3_0:Int) (y3_1:Sl) (y3_2:Sl) (H:Hp):An:=(rec spec_l6Copy.id [.sl 1 x1] H).bind fun r7=>(r7.1.toS 1).bind fun s8=>l2 rec k k x2 s8 0 1 y3_0 y3_1 y3_2 r7.2
noncomputable def j0 (rec:Rec) (k:Nat) (x1:Sl) (x2:Int) (x26:Bool) (y3_0:Int) (y3_1:Sl) (y3_2:Sl) (H:Hp):An:=bif x26 then some (.tup [.sl 1 (Sl.mk false H.length 0 0),.int .i64 (-1)],H ++ [some (Blk.mk false [])]) else j1 rec k x1 x2 y3_0 y3_1 y3_2 H
noncomputable def f (rec:Rec) (k:Nat) (a0_0:Int) (a0_1:Sl) (a0_2:Sl) (a1:Sl) (a2:Int) (H:Hp):An:=(rec spec_PuzzleValid.id [.agg [.int .i64 a0_0,.sl 1 a0_1,.sl 3 a0_2]] H).bind fun r1=>r1.1.toB.bind fun b2=>bif !b2 then j0 rec k a1 a2 true a0_0 a0_1 a0_2 r1.2 else (rec spec_MasksValid.id [.sl 1 a1,.int .i64 a0_0] r1.2).bind fun r3=>r3.1.toB.bind fun b4=>bif !b4 then j0 rec k a1 a2 true a0_0 a0_1 a0_2 r3.2 else (rec spec_l1In.id [.int .i64 a2,.int .i64 1,.int .i64 4] r3.2).bind fun r5=>r5.1.toB.bind fun b6=>j0 rec k a1 a2 (!b6) a0_0 a0_1 a0_2 r5.2
theorem j3_eq (rec:Rec) (k:Nat):∀ x8 x9 H,j3 rec k x8 x9 H=ex PP o rec k (sub body [1,1,1,1,1]) (St.of 47 [(8,.sl 1 x8),(9,.int .i64 x9)] []) H (kAt PP o rec k body [1,1,1,1,1] [] (K0 PP Go.Proofs.Try.f115)):=by
 intros x8 x9 H
 unfold j3
 kernel_rfl
theorem l2_eq (rec:Rec) (k:Nat):∀ n x2 x8 x9 x10 y3_0 y3_1 y3_2 H,l2 rec k n x2 x8 x9 x10 y3_0 y3_1 y3_2 H=iter (o.at (lbody (sub body [1,1,1,1,0,1,0]))) (ex PP o rec k (lbody (sub body [1,1,1,1,0,1,0]))) (kAt PP o rec k body [1,1,1,1,0,1,0] [] (K0 PP Go.Proofs.Try.f115)) n (St.of 47 [(2,.int .i64 x2),(3,.lp 3 0),(8,.sl 1 x8),(9,.int .i64 x9),(10,.int .i64 x10)] [(3,[.int .i64 y3_0,.sl 1 y3_1,.sl 3 y3_2])]) H:=by
 intro n
 induction n with
 | zero=>intros; rfl
 | succ n ih=>
  intros x2 x8 x9 x10 y3_0 y3_1 y3_2 H
  simp only [l2,j3_eq rec k,ih,-eq_self]
  kernel_rfl
theorem j1_eq (rec:Rec) (k:Nat):∀ x1 x2 y3_0 y3_1 y3_2 H,j1 rec k x1 x2 y3_0 y3_1 y3_2 H=ex PP o rec k (sub body [1,1]) (St.of 47 [(1,.sl 1 x1),(2,.int .i64 x2),(3,.lp 3 0)] [(3,[.int .i64 y3_0,.sl 1 y3_1,.sl 3 y3_2])]) H (kAt PP o rec k body [1,1] [] (K0 PP Go.Proofs.Try.f115)):=by
 intros x1 x2 y3_0 y3_1 y3_2 H
 unfold j1
 try simp only [l2_eq rec k,-eq_self]
 kernel_rfl
theorem j0_eq (rec:Rec) (k:Nat):∀ x1 x2 x26 y3_0 y3_1 y3_2 H,j0 rec k x1 x2 x26 y3_0 y3_1 y3_2 H=ex PP o rec k (sub body [1,0,1]) (St.of 47 [(1,.sl 1 x1),(2,.int .i64 x2),(3,.lp 3 0),(26,.bool x26)] [(3,[.int .i64 y3_0,.sl 1 y3_1,.sl 3 y3_2])]) H (kAt PP o rec k body [1,0,1] [] (K0 PP Go.Proofs.Try.f115)):=by
 intros x1 x2 x26 y3_0 y3_1 y3_2 H
 unfold j0
 try simp only [j1_eq rec k,-eq_self]
 kernel_rfl
theorem f_eq (rec:Rec) (k:Nat):∀ a0_0 a0_1 a0_2 a1 a2 H,f rec k a0_0 a0_1 a0_2 a1 a2 H=ex PP o rec k body (St.of 47 [(0,.agg [.int .i64 a0_0,.sl 1 a0_1,.sl 3 a0_2]),(1,.sl 1 a1),(2,.int .i64 a2)] []) H (K0 PP Go.Proofs.Try.f115):=by
 intros a0_0 a0_1 a0_2 a1 a2 H
 unfold f
 try simp only [j0_eq rec k,-eq_self]
 kernel_rfl
theorem call (k:Nat):∀ a0_0 a0_1 a0_2 a1 a2 H,callF PP orc (k + 1) spec_NarrowAll.id [.agg [.int .i64 a0_0,.sl 1 a0_1,.sl 3 a0_2],.sl 1 a1,.int .i64 a2] H=f (callF PP orc k) k a0_0 a0_1 a0_2 a1 a2 H:=by
 intros a0_0 a0_1 a0_2 a1 a2 H
 rw [callF_at (fn:=Go.Proofs.Try.f115) (c:=body) Go.Proofs.Try.func115 (by kernel_rfl) (Nat.le_of_ble_eq_true (by kernel_rfl)),f_eq]
 kernel_rfl
end spec_NarrowAll
namespace spec_l20Masks
noncomputable def body:Code:=(Go.Proofs.Try.f82).body.getD .skip
abbrev o:=orc spec_l20Masks.id
noncomputable def j3 (rec:Rec) (k:Nat) (x6:Int) (x7:Sl) (H:Hp):An:=some (.tup [.sl 1 x7,.int .i64 x6],H)
noncomputable def j2 (rec:Rec) (k:Nat) (x0b:Nat) (x0o:Nat) (x1:Int) (x6:Int) (x7:Sl) (H:Hp):An:=(rec spec_l20Rd_odd.id [.ptr x0b x0o,.int .i64 x1] H).bind fun r25=>r25.1.toB.bind fun b26=>bif b26 then (rec spec_l20Rd_pick.id [.ptr x0b x0o,.int .i64 3] r25.2).bind fun r27=>(r27.1.toI .i64).bind fun n28=>bif n28 == 0 then if (IntKind.i64.wrap (x6 + 1):Int) < 0 then none else (rec spec_l20Rd_pick.id [.ptr x0b x0o,.int .i64 (x7.len:Int)] r27.2).bind fun r29=>(r29.1.toI .i64).bind fun n30=>(rec spec_l20Rd_pick.id [.ptr x0b x0o,.int .i64 3] r29.2).bind fun r31=>(r31.1.toI .i64).bind fun n32=>bif decide (0 ≤ (n32:Int)) && decide ((n32:Int) < ((3:Nat):Int)) then (([.int .i64 (-2),.int .i64 1,.int .i64 (IntKind.i64.wrap (1 * 2 ^ (min (IntKind.i64.wrap (x6 + 1):Int).toNat IntKind.i64.bits)))]:List AV)[(n32:Int).toNat * 1]?).bind fun v33=>bif v33.cell then (v33.toI .i64).bind fun n34=>bif decide (0 ≤ (n30:Int)) && decide ((n30:Int) < x7.len) then (r31.2.sto x7.blk (x7.off + (n30:Int).toNat * 1) [.int .i64 n34]).bind fun H35=>j3 rec k x6 x7 H35 else none else none else none else bif n28 == 1 then if (0 ≤ (1:Int)∧(1:Int) ≤ (x7.len:Int)∧((x7.len:Int):Int) ≤ x7.len∧((x7.len:Int):Int)=(x7.len:Int))∧0 < 1∧true=true then j3 rec k x6 (Sl.mk x7.nil x7.blk (x7.off + (1:Int).toNat * 1) (((x7.len:Int):Int) - 1).toNat) r27.2 else none else (rec spec_l20Size.id [.ptr x0b x0o,.int .i64 1] r27.2).bind fun r36=>(r36.1.toI .i64).bind fun n37=>j3 rec k n37 x7 r36.2 else j3 rec k x6 x7 r25.2
noncomputable def j1 (rec:Rec) (k:Nat) (x0b:Nat) (x0o:Nat) (x1:Int) (x6:Int) (x7:Sl) (H:Hp):An:=(rec spec_l20Rd_pick.id [.ptr x0b x0o,.int .i64 2] H).bind fun r12=>(r12.1.toI .i64).bind fun n13=>bif n13 == 0 then (rec spec_l20Puzzle.id [.ptr x0b x0o,.int .i64 0] r12.2).bind fun r14=>bif r14.1.isAgg 3 then ((r14.1.cel 0).toI .i64).bind fun n15=>((r14.1.cel 1).toS 1).bind fun s16=>((r14.1.cel 2).toS 3).bind fun s17=>(rec spec_StartMasks.id [.agg [.int .i64 n15,.sl 1 s16,.sl 3 s17]] r14.2).bind fun r18=>(r18.1.toS 1).bind fun s19=>(rec spec_l20Rd_pick.id [.ptr x0b x0o,.int .i64 2] r18.2).bind fun r20=>(r20.1.toI .i64).bind fun n21=>(rec spec_NarrowAll.id [.agg [.int .i64 n15,.sl 1 s16,.sl 3 s17],.sl 1 s19,.int .i64 (IntKind.i64.wrap (1 + n21))] r20.2).bind fun r22=>bif r22.1.isTup 2 then ((r22.1.nth 0).toS 1).bind fun s23=>((r22.1.nth 1).toI .i64).bind fun n24=>j2 rec k x0b x0o x1 n15 s23 r22.2 else none else none else j2 rec k x0b x0o x1 x6 x7 r12.2
noncomputable def l0 (rec:Rec) (k:Nat):Nat→Nat→Nat→Int→Int→Sl→Int→Hp→An
 | 0,_,_,_,_,_,_,_=>none
 | n + 1,x0b,x0o,x1,x6,x7,x8,H=>bif decide (x8 < (IntKind.i64.wrap (x6 * x6))) then if (x6:Int) < 0 then none else if (IntKind.i64.wrap (x6 + 1):Int) < 0 then none else (rec spec_l20Rd_pick.id [.ptr x0b x0o,.int .i64 (IntKind.i64.wrap (1 * 2 ^ (min (x6:Int).toNat IntKind.i64.bits)))] H).bind fun r3=>(r3.1.toI .i64).bind fun n4=>(rec spec_l20Rd_pick.id [.ptr x0b x0o,.int .i64 x6] r3.2).bind fun r5=>(r5.1.toI .i64).bind fun n6=>if (IntKind.i64.wrap (1 + n6):Int) < 0 then none else (rec spec_l20Rd_pick.id [.ptr x0b x0o,.int .i64 3] r5.2).bind fun r7=>(r7.1.toI .i64).bind fun n8=>bif decide (0 ≤ (n8:Int)) && decide ((n8:Int) < ((3:Nat):Int)) then (([.int .i64 (IntKind.i64.wrap (n4 * 2)),.int .i64 (IntKind.i64.wrap ((IntKind.i64.wrap (1 * 2 ^ (min (IntKind.i64.wrap (x6 + 1):Int).toNat IntKind.i64.bits))) - 2)),.int .i64 (IntKind.i64.wrap (1 * 2 ^ (min (IntKind.i64.wrap (1 + n6):Int).toNat IntKind.i64.bits)))]:List AV)[(n8:Int).toNat * 1]?).bind fun v9=>bif v9.cell then (v9.toI .i64).bind fun n10=>(r7.2.app 1 x7 1 [.int .i64 n10]).bind fun w11=>(l0 rec k n) x0b x0o x1 x6 w11.1 (IntKind.i64.wrap (x8 + 1)) w11.2 else none else none else j1 rec k x0b x0o x1 x6 x7 H
noncomputable def f (rec:Rec) (k:Nat) (a0b:Nat) (a0o:Nat) (a1:Int) (H:Hp):An:=(rec spec_l20Size.id [.ptr a0b a0o,.int .i64 0] H).bind fun r1=>(r1.1.toI .i64).bind fun n2=>l0 rec k k a0b a0o a1 n2 (Sl.mk false r1.2.length 0 0) 0 (r1.2 ++ [some (Blk.mk false [])])
theorem j3_eq (rec:Rec) (k:Nat):∀ x6 x7 H,j3 rec k x6 x7 H=ex PP o rec k (sub body [1,1,1,1,1,1]) (St.of 88 [(6,.int .i64 x6),(7,.sl 1 x7)] []) H (kAt PP o rec k body [1,1,1,1,1,1] [] (K0 PP Go.Proofs.Try.f82)):=by
 intros x6 x7 H
 unfold j3
 kernel_rfl
theorem j2_eq (rec:Rec) (k:Nat):∀ x0b x0o x1 x6 x7 H,j2 rec k x0b x0o x1 x6 x7 H=ex PP o rec k (sub body [1,1,1,1,1]) (St.of 88 [(0,.ptr x0b x0o),(1,.int .i64 x1),(6,.int .i64 x6),(7,.sl 1 x7)] []) H (kAt PP o rec k body [1,1,1,1,1] [] (K0 PP Go.Proofs.Try.f82)):=by
 intros x0b x0o x1 x6 x7 H
 unfold j2
 try simp only [j3_eq rec k,-eq_self]
 kernel_rfl
theorem j1_eq (rec:Rec) (k:Nat):∀ x0b x0o x1 x6 x7 H,j1 rec k x0b x0o x1 x6 x7 H=ex PP o rec k (sub body [1,1,1,1]) (St.of 88 [(0,.ptr x0b x0o),(1,.int .i64 x1),(6,.int .i64 x6),(7,.sl 1 x7)] []) H (kAt PP o rec k body [1,1,1,1] [] (K0 PP Go.Proofs.Try.f82)):=by
 intros x0b x0o x1 x6 x7 H
 unfold j1
 try simp only [j2_eq rec k,-eq_self]
 kernel_rfl
theorem l0_eq (rec:Rec) (k:Nat):∀ n x0b x0o x1 x6 x7 x8 H,l0 rec k n x0b x0o x1 x6 x7 x8 H=iter (o.at (lbody (sub body [1,1,1,0,1,0]))) (ex PP o rec k (lbody (sub body [1,1,1,0,1,0]))) (kAt PP o rec k body [1,1,1,0,1,0] [] (K0 PP Go.Proofs.Try.f82)) n (St.of 88 [(0,.ptr x0b x0o),(1,.int .i64 x1),(6,.int .i64 x6),(7,.sl 1 x7),(8,.int .i64 x8)] []) H:=by
 intro n
 induction n with
 | zero=>intros; rfl
 | succ n ih=>
  intros x0b x0o x1 x6 x7 x8 H
  simp only [l0,j1_eq rec k,ih,-eq_self]
  kernel_rfl
theorem f_eq (rec:Rec) (k:Nat):∀ a0b a0o a1 H,f rec k a0b a0o a1 H=ex PP o rec k body (St.of 88 [(0,.ptr a0b a0o),(1,.int .i64 a1)] []) H (K0 PP Go.Proofs.Try.f82):=by
 intros a0b a0o a1 H
 unfold f
 try simp only [l0_eq rec k,-eq_self]
 kernel_rfl
theorem call (k:Nat):∀ a0b a0o a1 H,callF PP orc (k + 1) spec_l20Masks.id [.ptr a0b a0o,.int .i64 a1] H=f (callF PP orc k) k a0b a0o a1 H:=by
 intros a0b a0o a1 H
 rw [callF_at (fn:=Go.Proofs.Try.f82) (c:=body) Go.Proofs.Try.func82 (by kernel_rfl) (Nat.le_of_ble_eq_true (by kernel_rfl)),f_eq]
 kernel_rfl
end spec_l20Masks

namespace impl_allValues
noncomputable def body:Code:=(Go.Proofs.Try.f84).body.getD .skip
noncomputable def f (rec:Rec) (k:Nat) (a0:Int) (H:Hp):An:=if (IntKind.i64.wrap (a0 + 1):Int) < 0 then none else some (.int .i64 (IntKind.i64.wrap ((IntKind.i64.wrap (1 * 2 ^ (min (IntKind.i64.wrap (a0 + 1):Int).toNat IntKind.i64.bits))) - 2)),H)
theorem f_eq (rec:Rec) (k:Nat):∀ a0 H,f rec k a0 H=ex PP (orc impl_allValues.id) rec k body (St.of 7 [(0,.int .i64 a0)] []) H (K0 PP Go.Proofs.Try.f84):=by
 intros a0 H
 unfold f
 kernel_rfl
theorem call (k:Nat):∀ a0 H,callF PP orc (k + 1) impl_allValues.id [.int .i64 a0] H=f (callF PP orc k) k a0 H:=by
 intros a0 H
 rw [callF_at (fn:=Go.Proofs.Try.f84) (c:=body) Go.Proofs.Try.func84 (by kernel_rfl) (Nat.le_of_ble_eq_true (by kernel_rfl)),f_eq]
 kernel_rfl
end impl_allValues
namespace impl_valuesHold
noncomputable def body:Code:=(Go.Proofs.Try.f101).body.getD .skip
abbrev o:=orc impl_valuesHold.id
abbrev TL0:=Sl→Int→Int→Sl→Int→Int→Int→Sl→Int→Hp→An
abbrev PhL0 (rec:Rec) (k n0:Nat) (L0:TL0):Prop:=∀ x1 x5 x6 x9 x10 x11 y2_0 y2_1 y2_2 H,L0 x1 x5 x6 x9 x10 x11 y2_0 y2_1 y2_2 H=iter (o.at (lbody (sub body [1,1,0,1,0]))) (ex PP o rec k (lbody (sub body [1,1,0,1,0]))) (kAt PP o rec k body [1,1,0,1,0] [] (K0 PP Go.Proofs.Try.f101)) n0 (St.of 76 [(1,.sl 1 x1),(2,.lp 2 0),(5,.int .i64 x5),(6,.int .i64 x6),(9,.sl 1 x9),(10,.int .i64 x10),(11,.int .i64 x11)] [(2,[.int .i64 y2_0,.sl 1 y2_1,.int .i64 y2_2])]) H
noncomputable def j2 (rec:Rec) (k:Nat) (x1:Sl) (x5:Int) (x6:Int) (y2_0:Int) (y2_1:Sl) (y2_2:Int) (H:Hp):An:=bif y2_0 == 2 then some (.bool (x5 == y2_2),H) else bif y2_0 == 3 then some (.bool (x6 == y2_2),H) else bif y2_0 == 4 then bif decide (0 ≤ (0:Int)) && decide ((0:Int) < x1.len) then (ldI .i64 H x1.blk (x1.off + (0:Int).toNat * 1)).bind fun n4=>bif decide (0 ≤ (1:Int)) && decide ((1:Int) < x1.len) then (ldI .i64 H x1.blk (x1.off + (1:Int).toNat * 1)).bind fun n5=>some (.bool (decide (n4 < n5)),H) else none else none else bif y2_0 == 5 then bif decide (0 ≤ (0:Int)) && decide ((0:Int) < x1.len) then (ldI .i64 H x1.blk (x1.off + (0:Int).toNat * 1)).bind fun n6=>bif decide (0 ≤ (1:Int)) && decide ((1:Int) < x1.len) then (ldI .i64 H x1.blk (x1.off + (1:Int).toNat * 1)).bind fun n7=>bif decide (0 ≤ (1:Int)) && decide ((1:Int) < x1.len) then (ldI .i64 H x1.blk (x1.off + (1:Int).toNat * 1)).bind fun n8=>bif decide (0 ≤ (0:Int)) && decide ((0:Int) < x1.len) then (ldI .i64 H x1.blk (x1.off + (0:Int).toNat * 1)).bind fun n9=>some (.bool ((mx (IntKind.i64.wrap (n6 - n7)) (IntKind.i64.wrap (n8 - n9))) == y2_2),H) else none else none else none else none else some (.bool true,H)
noncomputable def j3 (rec:Rec) (k:Nat) (L0:TL0) (x1:Sl) (x5:Int) (x6:Int) (x9:Sl) (x10:Int) (x11:Int) (y2_0:Int) (y2_1:Sl) (y2_2:Int) (H:Hp):An:=L0 x1 x5 x6 x9 x10 (IntKind.i64.wrap (x11 + 1)) y2_0 y2_1 y2_2 H
noncomputable def j1 (rec:Rec) (k:Nat) (L0:TL0) (x1:Sl) (x5:Int) (x6:Int) (x9:Sl) (x10:Int) (x11:Int) (x31:Bool) (y2_0:Int) (y2_1:Sl) (y2_2:Int) (H:Hp):An:=bif x31 then some (.bool false,H) else j3 rec k L0 x1 x5 x6 x9 x10 x11 y2_0 y2_1 y2_2 H
noncomputable def l0 (rec:Rec) (k:Nat):Nat→Sl→Int→Int→Sl→Int→Int→Int→Sl→Int→Hp→An
 | 0,_,_,_,_,_,_,_,_,_,_=>none
 | n + 1,x1,x5,x6,x9,x10,x11,y2_0,y2_1,y2_2,H=>bif decide (x11 < x10) then bif decide (0 ≤ (x11:Int)) && decide ((x11:Int) < x9.len) then (ldI .i64 H x9.blk (x9.off + (x11:Int).toNat * 1)).bind fun n1=>bif y2_0 == 1 then if (0 ≤ (0:Int)∧(0:Int) ≤ x11∧(x11:Int) ≤ x1.len∧(x11:Int)=x11)∧0 < 1∧true=true then (rec slices_Contains_int.id [.sl 1 (Sl.mk x1.nil x1.blk (x1.off + (0:Int).toNat * 1) ((x11:Int) - 0).toNat),.int .i64 n1] H).bind fun r2=>r2.1.toB.bind fun b3=>j1 rec k (l0 rec k n) x1 (IntKind.i64.wrap (x5 + n1)) (IntKind.i64.wrap (x6 * n1)) x9 x10 x11 b3 y2_0 y2_1 y2_2 r2.2 else none else j1 rec k (l0 rec k n) x1 (IntKind.i64.wrap (x5 + n1)) (IntKind.i64.wrap (x6 * n1)) x9 x10 x11 false y2_0 y2_1 y2_2 H else none else j2 rec k x1 x5 x6 y2_0 y2_1 y2_2 H
noncomputable def f (rec:Rec) (k:Nat) (a0_0:Int) (a0_1:Sl) (a0_2:Int) (a1:Sl) (H:Hp):An:=l0 rec k k a1 0 1 a1 (a1.len:Int) 0 a0_0 a0_1 a0_2 H
theorem j2_eq (rec:Rec) (k:Nat):∀ x1 x5 x6 y2_0 y2_1 y2_2 H,j2 rec k x1 x5 x6 y2_0 y2_1 y2_2 H=ex PP o rec k (sub body [1,1,1]) (St.of 76 [(1,.sl 1 x1),(2,.lp 2 0),(5,.int .i64 x5),(6,.int .i64 x6)] [(2,[.int .i64 y2_0,.sl 1 y2_1,.int .i64 y2_2])]) H (kAt PP o rec k body [1,1,1] [] (K0 PP Go.Proofs.Try.f101)):=by
 intros x1 x5 x6 y2_0 y2_1 y2_2 H
 unfold j2
 kernel_rfl
theorem j3_eq (rec:Rec) (k:Nat) (n0:Nat) (L0:TL0) (hL0:PhL0 rec k n0 L0):∀ x1 x5 x6 x9 x10 x11 y2_0 y2_1 y2_2 H,j3 rec k L0 x1 x5 x6 x9 x10 x11 y2_0 y2_1 y2_2 H=ex PP o rec k (sub body [1,1,0,1,0,0,1,1,1]) (St.of 76 [(1,.sl 1 x1),(2,.lp 2 0),(5,.int .i64 x5),(6,.int .i64 x6),(9,.sl 1 x9),(10,.int .i64 x10),(11,.int .i64 x11)] [(2,[.int .i64 y2_0,.sl 1 y2_1,.int .i64 y2_2])]) H (kAt PP o rec k body [1,1,0,1,0,0,1,1,1] [n0] (K0 PP Go.Proofs.Try.f101)):=by
 intros x1 x5 x6 x9 x10 x11 y2_0 y2_1 y2_2 H
 unfold j3
 try simp only [hL0,-eq_self]
 kernel_rfl
theorem j1_eq (rec:Rec) (k:Nat) (n0:Nat) (L0:TL0) (hL0:PhL0 rec k n0 L0):∀ x1 x5 x6 x9 x10 x11 x31 y2_0 y2_1 y2_2 H,j1 rec k L0 x1 x5 x6 x9 x10 x11 x31 y2_0 y2_1 y2_2 H=ex PP o rec k (sub body [1,1,0,1,0,0,1,1,0,0,1,1,1,1]) (St.of 76 [(1,.sl 1 x1),(2,.lp 2 0),(5,.int .i64 x5),(6,.int .i64 x6),(9,.sl 1 x9),(10,.int .i64 x10),(11,.int .i64 x11),(31,.bool x31)] [(2,[.int .i64 y2_0,.sl 1 y2_1,.int .i64 y2_2])]) H (kAt PP o rec k body [1,1,0,1,0,0,1,1,0,0,1,1,1,1] [n0] (K0 PP Go.Proofs.Try.f101)):=by
 intros x1 x5 x6 x9 x10 x11 x31 y2_0 y2_1 y2_2 H
 unfold j1
 try simp only [hL0,j3_eq rec k n0 L0 hL0,-eq_self]
 kernel_rfl
theorem l0_eq (rec:Rec) (k:Nat):∀ n x1 x5 x6 x9 x10 x11 y2_0 y2_1 y2_2 H,l0 rec k n x1 x5 x6 x9 x10 x11 y2_0 y2_1 y2_2 H=iter (o.at (lbody (sub body [1,1,0,1,0]))) (ex PP o rec k (lbody (sub body [1,1,0,1,0]))) (kAt PP o rec k body [1,1,0,1,0] [] (K0 PP Go.Proofs.Try.f101)) n (St.of 76 [(1,.sl 1 x1),(2,.lp 2 0),(5,.int .i64 x5),(6,.int .i64 x6),(9,.sl 1 x9),(10,.int .i64 x10),(11,.int .i64 x11)] [(2,[.int .i64 y2_0,.sl 1 y2_1,.int .i64 y2_2])]) H:=by
 intro n
 induction n with
 | zero=>intros; rfl
 | succ n ih=>
  intros x1 x5 x6 x9 x10 x11 y2_0 y2_1 y2_2 H
  simp only [l0,j1_eq rec k n (l0 rec k n) (fun x1 x5 x6 x9 x10 x11 y2_0 y2_1 y2_2 H=>ih x1 x5 x6 x9 x10 x11 y2_0 y2_1 y2_2 H),j2_eq rec k,ih,-eq_self]
  kernel_rfl
theorem f_eq (rec:Rec) (k:Nat):∀ a0_0 a0_1 a0_2 a1 H,f rec k a0_0 a0_1 a0_2 a1 H=ex PP o rec k body (St.of 76 [(0,.agg [.int .i64 a0_0,.sl 1 a0_1,.int .i64 a0_2]),(1,.sl 1 a1)] []) H (K0 PP Go.Proofs.Try.f101):=by
 intros a0_0 a0_1 a0_2 a1 H
 unfold f
 try simp only [l0_eq rec k,-eq_self]
 kernel_rfl
theorem call (k:Nat):∀ a0_0 a0_1 a0_2 a1 H,callF PP orc (k + 1) impl_valuesHold.id [.agg [.int .i64 a0_0,.sl 1 a0_1,.int .i64 a0_2],.sl 1 a1] H=f (callF PP orc k) k a0_0 a0_1 a0_2 a1 H:=by
 intros a0_0 a0_1 a0_2 a1 H
 rw [callF_at (fn:=Go.Proofs.Try.f101) (c:=body) Go.Proofs.Try.func101 (by kernel_rfl) (Nat.le_of_ble_eq_true (by kernel_rfl)),f_eq]
 kernel_rfl
end impl_valuesHold
namespace impl_ruleMasks
noncomputable def body:Code:=(Go.Proofs.Try.f103).body.getD .skip
noncomputable def f (rec:Rec) (k:Nat) (a0_0:Int) (a0_1:Sl) (a0_2:Int) (a1:Sl) (H:Hp):An:=(ldS 1 (H ++ [some (Blk.mk false [.int .i64 a0_0,.sl 1 a0_1,.int .i64 a0_2])] ++ [some (Blk.mk false [.sl 1 a1])]) ((H ++ [some (Blk.mk false [.int .i64 a0_0,.sl 1 a0_1,.int .i64 a0_2])]).length) 0).bind fun s1=>if 0 ≤ ((s1.len:Int):Int)∧((s1.len:Int):Int) ≤ (s1.len:Int)∧((s1.len:Int):Int) ≤ 1073741824∧8 ≤ 8192∧0 < 1 then ((H ++ [some (Blk.mk false [.int .i64 a0_0,.sl 1 a0_1,.int .i64 a0_2])] ++ [some (Blk.mk false [.sl 1 a1])] ++ [some (Blk.mk false (List.replicate ((s1.len:Int):Int).toNat [.int .i64 0]).flatten)] ++ [some (Blk.mk false [.sl 1 Sl.none])]).sto ((H ++ [some (Blk.mk false [.int .i64 a0_0,.sl 1 a0_1,.int .i64 a0_2])] ++ [some (Blk.mk false [.sl 1 a1])] ++ [some (Blk.mk false (List.replicate ((s1.len:Int):Int).toNat [.int .i64 0]).flatten)]).length) 0 [.sl 1 (Sl.mk false (H ++ [some (Blk.mk false [.int .i64 a0_0,.sl 1 a0_1,.int .i64 a0_2])] ++ [some (Blk.mk false [.sl 1 a1])]).length 0 ((s1.len:Int):Int).toNat)]).bind fun H2=>(ldS 1 H2 ((H ++ [some (Blk.mk false [.int .i64 a0_0,.sl 1 a0_1,.int .i64 a0_2])]).length) 0).bind fun s3=>if 0 ≤ ((s3.len:Int):Int)∧((s3.len:Int):Int) ≤ (s3.len:Int)∧((s3.len:Int):Int) ≤ 1073741824∧8 ≤ 8192∧0 < 1 then ((H2 ++ [some (Blk.mk false (List.replicate ((s3.len:Int):Int).toNat [.int .i64 0]).flatten)] ++ [some (Blk.mk false [.sl 1 Sl.none])]).sto ((H2 ++ [some (Blk.mk false (List.replicate ((s3.len:Int):Int).toNat [.int .i64 0]).flatten)]).length) 0 [.sl 1 (Sl.mk false H2.length 0 ((s3.len:Int):Int).toNat)]).bind fun H4=>((H4 ++ [some (Blk.mk false [.nilf])]).sto H4.length 0 [.fn impl_ruleMasks_1.id [.ptr ((H ++ [some (Blk.mk false [.int .i64 a0_0,.sl 1 a0_1,.int .i64 a0_2])]).length) 0,.ptr H.length 0,.ptr ((H2 ++ [some (Blk.mk false (List.replicate ((s3.len:Int):Int).toNat [.int .i64 0]).flatten)]).length) 0,.ptr ((H ++ [some (Blk.mk false [.int .i64 a0_0,.sl 1 a0_1,.int .i64 a0_2])] ++ [some (Blk.mk false [.sl 1 a1])] ++ [some (Blk.mk false (List.replicate ((s1.len:Int):Int).toNat [.int .i64 0]).flatten)]).length) 0,.ptr H4.length 0]]).bind fun H5=>(ldF H5 H4.length 0).bind fun q6=>bif okF Go.Proofs.Try.prog q6.1 && ([.int .i64 0] ++ q6.2:List AV).all AV.glob then (rec q6.1 ([.int .i64 0] ++ q6.2) H5).bind fun r7=>(ldS 1 r7.2 ((H ++ [some (Blk.mk false [.int .i64 a0_0,.sl 1 a0_1,.int .i64 a0_2])] ++ [some (Blk.mk false [.sl 1 a1])] ++ [some (Blk.mk false (List.replicate ((s1.len:Int):Int).toNat [.int .i64 0]).flatten)]).length) 0).bind fun s8=>some (.sl 1 s8,r7.2) else none else none else none
theorem f_eq (rec:Rec) (k:Nat):∀ a0_0 a0_1 a0_2 a1 H,f rec k a0_0 a0_1 a0_2 a1 H=ex PP (orc impl_ruleMasks.id) rec k body (St.of 18 [(0,.agg [.int .i64 a0_0,.sl 1 a0_1,.int .i64 a0_2]),(1,.sl 1 a1)] []) H (K0 PP Go.Proofs.Try.f103):=by
 intros a0_0 a0_1 a0_2 a1 H
 unfold f
 kernel_rfl
theorem call (k:Nat):∀ a0_0 a0_1 a0_2 a1 H,callF PP orc (k + 1) impl_ruleMasks.id [.agg [.int .i64 a0_0,.sl 1 a0_1,.int .i64 a0_2],.sl 1 a1] H=f (callF PP orc k) k a0_0 a0_1 a0_2 a1 H:=by
 intros a0_0 a0_1 a0_2 a1 H
 rw [callF_at (fn:=Go.Proofs.Try.f103) (c:=body) Go.Proofs.Try.func103 (by kernel_rfl) (Nat.le_of_ble_eq_true (by kernel_rfl)),f_eq]
 kernel_rfl
end impl_ruleMasks
namespace impl_ruleMasks_1
noncomputable def body:Code:=(Go.Proofs.Try.f122).body.getD .skip
abbrev o:=orc impl_ruleMasks_1.id
noncomputable def l0 (rec:Rec) (k:Nat):Nat→Nat→Nat→Sl→Int→Int→Hp→An
 | 0,_,_,_,_,_,_=>none
 | n + 1,x4b,x4o,x17,x18,x19,H=>bif decide (x19 < x18) then bif decide (0 ≤ (x19:Int)) && decide ((x19:Int) < x17.len) then (ldI .i64 H x17.blk (x17.off + (x19:Int).toNat * 1)).bind fun n9=>(ldS 1 H x4b x4o).bind fun s10=>bif decide (0 ≤ (x19:Int)) && decide ((x19:Int) < s10.len) then (ldI .i64 H s10.blk (s10.off + (x19:Int).toNat * 1)).bind fun n11=>if (n9:Int) < 0 then none else bif decide (0 ≤ (x19:Int)) && decide ((x19:Int) < s10.len) then (H.sto s10.blk (s10.off + (x19:Int).toNat * 1) [.int .i64 (IntKind.i64.wrap (((BitVec.ofInt IntKind.i64.bits n11 ||| BitVec.ofInt IntKind.i64.bits (IntKind.i64.wrap (1 * 2 ^ (min (n9:Int).toNat IntKind.i64.bits)))).toNat:Int)))]).bind fun H12=>(l0 rec k n) x4b x4o x17 x18 (IntKind.i64.wrap (x19 + 1)) H12 else none else none else none else some (.tup [],H)
noncomputable def j2 (rec:Rec) (k:Nat) (L1:Int→Nat→Nat→Nat→Nat→Nat→Nat→Int→Hp→An) (x0:Int) (x1b:Nat) (x1o:Nat) (x3b:Nat) (x3o:Nat) (x5b:Nat) (x5o:Nat) (x9:Int) (H:Hp):An:=L1 x0 x1b x1o x3b x3o x5b x5o (IntKind.i64.wrap (x9 + 1)) H
noncomputable def l1 (rec:Rec) (k:Nat):Nat→Int→Nat→Nat→Nat→Nat→Nat→Nat→Int→Hp→An
 | 0,_,_,_,_,_,_,_,_,_=>none
 | n + 1,x0,x1b,x1o,x3b,x3o,x5b,x5o,x9,H=>bif decide (x9 ≤ 4) then (ldS 1 H x1b x1o).bind fun s13=>bif decide (0 ≤ (x0:Int)) && decide ((x0:Int) < s13.len) then (ldI .i64 H s13.blk (s13.off + (x0:Int).toNat * 1)).bind fun n14=>if (x9:Int) < 0 then none else bif (IntKind.i64.wrap (((BitVec.ofInt IntKind.i64.bits ((n14:Int).fdiv (2 ^ (min (x9:Int).toNat IntKind.i64.bits))) &&& BitVec.ofInt IntKind.i64.bits 1).toNat:Int))) == 1 then (ldS 1 H x3b x3o).bind fun s15=>bif decide (0 ≤ (x0:Int)) && decide ((x0:Int) < s15.len) then (H.sto s15.blk (s15.off + (x0:Int).toNat * 1) [.int .i64 x9]).bind fun H16=>(ldF H16 x5b x5o).bind fun q17=>bif okF Go.Proofs.Try.prog q17.1 && ([.int .i64 (IntKind.i64.wrap (x0 + 1))] ++ q17.2:List AV).all AV.glob then (rec q17.1 ([.int .i64 (IntKind.i64.wrap (x0 + 1))] ++ q17.2) H16).bind fun r18=>j2 rec k (l1 rec k n) x0 x1b x1o x3b x3o x5b x5o x9 r18.2 else none else none else j2 rec k (l1 rec k n) x0 x1b x1o x3b x3o x5b x5o x9 H else none else some (.tup [],H)
noncomputable def f (rec:Rec) (k:Nat) (a0:Int) (c0b:Nat) (c0o:Nat) (c1b:Nat) (c1o:Nat) (c2b:Nat) (c2o:Nat) (c3b:Nat) (c3o:Nat) (c4b:Nat) (c4o:Nat) (H:Hp):An:=(ldS 1 H c0b c0o).bind fun s1=>bif a0 == (s1.len:Int) then (ldI .i64 H c1b c1o).bind fun n2=>(ldS 1 H c1b (c1o + 1)).bind fun s3=>(ldI .i64 H c1b (c1o + 1 + 1)).bind fun n4=>(ldS 1 H c2b c2o).bind fun s5=>(rec impl_valuesHold.id [.agg [.int .i64 n2,.sl 1 s3,.int .i64 n4],.sl 1 s5] H).bind fun r6=>r6.1.toB.bind fun b7=>bif b7 then (ldS 1 r6.2 c2b c2o).bind fun s8=>l0 rec k k c3b c3o s8 (s8.len:Int) 0 r6.2 else some (.tup [],r6.2) else l1 rec k k a0 c0b c0o c2b c2o c4b c4o 1 H
theorem l0_eq (rec:Rec) (k:Nat):∀ n x4b x4o x17 x18 x19 H,l0 rec k n x4b x4o x17 x18 x19 H=iter (o.at (lbody (sub body [0,1,0,0,1,0,1,0]))) (ex PP o rec k (lbody (sub body [0,1,0,0,1,0,1,0]))) (kAt PP o rec k body [0,1,0,0,1,0,1,0] [] (K0 PP Go.Proofs.Try.f122)) n (St.of 53 [(4,.ptr x4b x4o),(17,.sl 1 x17),(18,.int .i64 x18),(19,.int .i64 x19)] []) H:=by
 intro n
 induction n with
 | zero=>intros; rfl
 | succ n ih=>
  intros x4b x4o x17 x18 x19 H
  simp only [l0,ih,-eq_self]
  kernel_rfl
theorem j2_eq (rec:Rec) (k:Nat) (n1:Nat) (L1:Int→Nat→Nat→Nat→Nat→Nat→Nat→Int→Hp→An) (hL1:∀ x0 x1b x1o x3b x3o x5b x5o x9 H,L1 x0 x1b x1o x3b x3o x5b x5o x9 H=iter (o.at (lbody (sub body [1,1,0]))) (ex PP o rec k (lbody (sub body [1,1,0]))) (kAt PP o rec k body [1,1,0] [] (K0 PP Go.Proofs.Try.f122)) n1 (St.of 53 [(0,.int .i64 x0),(1,.ptr x1b x1o),(3,.ptr x3b x3o),(5,.ptr x5b x5o),(9,.int .i64 x9)] []) H):∀ x0 x1b x1o x3b x3o x5b x5o x9 H,j2 rec k L1 x0 x1b x1o x3b x3o x5b x5o x9 H=ex PP o rec k (sub body [1,1,0,0,1,1]) (St.of 53 [(0,.int .i64 x0),(1,.ptr x1b x1o),(3,.ptr x3b x3o),(5,.ptr x5b x5o),(9,.int .i64 x9)] []) H (kAt PP o rec k body [1,1,0,0,1,1] [n1] (K0 PP Go.Proofs.Try.f122)):=by
 intros x0 x1b x1o x3b x3o x5b x5o x9 H
 unfold j2
 try simp only [hL1,-eq_self]
 kernel_rfl
theorem l1_eq (rec:Rec) (k:Nat):∀ n x0 x1b x1o x3b x3o x5b x5o x9 H,l1 rec k n x0 x1b x1o x3b x3o x5b x5o x9 H=iter (o.at (lbody (sub body [1,1,0]))) (ex PP o rec k (lbody (sub body [1,1,0]))) (kAt PP o rec k body [1,1,0] [] (K0 PP Go.Proofs.Try.f122)) n (St.of 53 [(0,.int .i64 x0),(1,.ptr x1b x1o),(3,.ptr x3b x3o),(5,.ptr x5b x5o),(9,.int .i64 x9)] []) H:=by
 intro n
 induction n with
 | zero=>intros; rfl
 | succ n ih=>
  intros x0 x1b x1o x3b x3o x5b x5o x9 H
  simp only [l1,j2_eq rec k n (l1 rec k n) (fun x0 x1b x1o x3b x3o x5b x5o x9 H=>ih x0 x1b x1o x3b x3o x5b x5o x9 H),ih,-eq_self]
  kernel_rfl
theorem f_eq (rec:Rec) (k:Nat):∀ a0 c0b c0o c1b c1o c2b c2o c3b c3o c4b c4o H,f rec k a0 c0b c0o c1b c1o c2b c2o c3b c3o c4b c4o H=ex PP o rec k body (St.of 53 [(0,.int .i64 a0),(1,.ptr c0b c0o),(2,.ptr c1b c1o),(3,.ptr c2b c2o),(4,.ptr c3b c3o),(5,.ptr c4b c4o)] []) H (K0 PP Go.Proofs.Try.f122):=by
 intros a0 c0b c0o c1b c1o c2b c2o c3b c3o c4b c4o H
 unfold f
 try simp only [l0_eq rec k,l1_eq rec k,-eq_self]
 kernel_rfl
theorem call (k:Nat):∀ a0 c0b c0o c1b c1o c2b c2o c3b c3o c4b c4o H,callF PP orc (k + 1) impl_ruleMasks_1.id [.int .i64 a0,.ptr c0b c0o,.ptr c1b c1o,.ptr c2b c2o,.ptr c3b c3o,.ptr c4b c4o] H=f (callF PP orc k) k a0 c0b c0o c1b c1o c2b c2o c3b c3o c4b c4o H:=by
 intros a0 c0b c0o c1b c1o c2b c2o c3b c3o c4b c4o H
 rw [callF_at (fn:=Go.Proofs.Try.f122) (c:=body) Go.Proofs.Try.func122 (by kernel_rfl) (Nat.le_of_ble_eq_true (by kernel_rfl)),f_eq]
 kernel_rfl
end impl_ruleMasks_1
namespace impl_MasksValid
noncomputable def body:Code:=(Go.Proofs.Try.f23).body.getD .skip
abbrev o:=orc impl_MasksValid.id
abbrev TL2:=Int→Sl→Int→Int→Hp→An
abbrev PhL2 (rec:Rec) (k n2:Nat) (L2:TL2):Prop:=∀ x1 x18 x19 x20 H,L2 x1 x18 x19 x20 H=iter (o.at (lbody (sub body [1,1,0,1,0]))) (ex PP o rec k (lbody (sub body [1,1,0,1,0]))) (kAt PP o rec k body [1,1,0,1,0] [] (K0 PP Go.Proofs.Try.f23)) n2 (St.of 34 [(1,.int .i64 x1),(18,.sl 1 x18),(19,.int .i64 x19),(20,.int .i64 x20)] []) H
noncomputable def j4 (rec:Rec) (k:Nat) (L2:TL2) (x1:Int) (x18:Sl) (x19:Int) (x20:Int) (H:Hp):An:=L2 x1 x18 x19 (IntKind.i64.wrap (x20 + 1)) H
noncomputable def j3 (rec:Rec) (k:Nat) (L2:TL2) (x1:Int) (x18:Sl) (x19:Int) (x20:Int) (x32:Bool) (H:Hp):An:=bif x32 then some (.bool false,H) else j4 rec k L2 x1 x18 x19 x20 H
noncomputable def l2 (rec:Rec) (k:Nat):Nat→Int→Sl→Int→Int→Hp→An
 | 0,_,_,_,_,_=>none
 | n + 1,x1,x18,x19,x20,H=>bif decide (x20 < x19) then bif decide (0 ≤ (x20:Int)) && decide ((x20:Int) < x18.len) then (ldI .i64 H x18.blk (x18.off + (x20:Int).toNat * 1)).bind fun n3=>bif decide (n3 < 0) then j3 rec k (l2 rec k n) x1 x18 x19 x20 true H else (rec impl_allValues.id [.int .i64 x1] H).bind fun r4=>(r4.1.toI .i64).bind fun n5=>j3 rec k (l2 rec k n) x1 x18 x19 x20 ((IntKind.i64.wrap (((BitVec.ofInt IntKind.i64.bits n3 &&& ~~~ (BitVec.ofInt IntKind.i64.bits n5)).toNat:Int))) != 0) r4.2 else none else some (.bool true,H)
noncomputable def j1 (rec:Rec) (k:Nat) (x0:Sl) (x1:Int) (H:Hp):An:=l2 rec k k x1 x0 (x0.len:Int) 0 H
noncomputable def j0 (rec:Rec) (k:Nat) (x0:Sl) (x1:Int) (x17:Bool) (H:Hp):An:=bif x17 then some (.bool false,H) else j1 rec k x0 x1 H
noncomputable def f (rec:Rec) (k:Nat) (a0:Sl) (a1:Int) (H:Hp):An:=(rec impl_sizeOk.id [.int .i64 a1] H).bind fun r1=>r1.1.toB.bind fun b2=>bif !b2 then j0 rec k a0 a1 true r1.2 else j0 rec k a0 a1 ((a0.len:Int) != (IntKind.i64.wrap (a1 * a1))) r1.2
theorem j4_eq (rec:Rec) (k:Nat) (n2:Nat) (L2:TL2) (hL2:PhL2 rec k n2 L2):∀ x1 x18 x19 x20 H,j4 rec k L2 x1 x18 x19 x20 H=ex PP o rec k (sub body [1,1,0,1,0,0,1,1,1]) (St.of 34 [(1,.int .i64 x1),(18,.sl 1 x18),(19,.int .i64 x19),(20,.int .i64 x20)] []) H (kAt PP o rec k body [1,1,0,1,0,0,1,1,1] [n2] (K0 PP Go.Proofs.Try.f23)):=by
 intros x1 x18 x19 x20 H
 unfold j4
 try simp only [hL2,-eq_self]
 kernel_rfl
theorem j3_eq (rec:Rec) (k:Nat) (n2:Nat) (L2:TL2) (hL2:PhL2 rec k n2 L2):∀ x1 x18 x19 x20 x32 H,j3 rec k L2 x1 x18 x19 x20 x32 H=ex PP o rec k (sub body [1,1,0,1,0,0,1,1,0,0,1,1]) (St.of 34 [(1,.int .i64 x1),(18,.sl 1 x18),(19,.int .i64 x19),(20,.int .i64 x20),(32,.bool x32)] []) H (kAt PP o rec k body [1,1,0,1,0,0,1,1,0,0,1,1] [n2] (K0 PP Go.Proofs.Try.f23)):=by
 intros x1 x18 x19 x20 x32 H
 unfold j3
 try simp only [hL2,j4_eq rec k n2 L2 hL2,-eq_self]
 kernel_rfl
theorem l2_eq (rec:Rec) (k:Nat):∀ n x1 x18 x19 x20 H,l2 rec k n x1 x18 x19 x20 H=iter (o.at (lbody (sub body [1,1,0,1,0]))) (ex PP o rec k (lbody (sub body [1,1,0,1,0]))) (kAt PP o rec k body [1,1,0,1,0] [] (K0 PP Go.Proofs.Try.f23)) n (St.of 34 [(1,.int .i64 x1),(18,.sl 1 x18),(19,.int .i64 x19),(20,.int .i64 x20)] []) H:=by
 intro n
 induction n with
 | zero=>intros; rfl
 | succ n ih=>
  intros x1 x18 x19 x20 H
  simp only [l2,j3_eq rec k n (l2 rec k n) (fun x1 x18 x19 x20 H=>ih x1 x18 x19 x20 H),ih,-eq_self]
  kernel_rfl
theorem j1_eq (rec:Rec) (k:Nat):∀ x0 x1 H,j1 rec k x0 x1 H=ex PP o rec k (sub body [1,1]) (St.of 34 [(0,.sl 1 x0),(1,.int .i64 x1)] []) H (kAt PP o rec k body [1,1] [] (K0 PP Go.Proofs.Try.f23)):=by
 intros x0 x1 H
 unfold j1
 try simp only [l2_eq rec k,-eq_self]
 kernel_rfl
theorem j0_eq (rec:Rec) (k:Nat):∀ x0 x1 x17 H,j0 rec k x0 x1 x17 H=ex PP o rec k (sub body [1,0,1]) (St.of 34 [(0,.sl 1 x0),(1,.int .i64 x1),(17,.bool x17)] []) H (kAt PP o rec k body [1,0,1] [] (K0 PP Go.Proofs.Try.f23)):=by
 intros x0 x1 x17 H
 unfold j0
 try simp only [j1_eq rec k,-eq_self]
 kernel_rfl
theorem f_eq (rec:Rec) (k:Nat):∀ a0 a1 H,f rec k a0 a1 H=ex PP o rec k body (St.of 34 [(0,.sl 1 a0),(1,.int .i64 a1)] []) H (K0 PP Go.Proofs.Try.f23):=by
 intros a0 a1 H
 unfold f
 try simp only [j0_eq rec k,-eq_self]
 kernel_rfl
theorem call (k:Nat):∀ a0 a1 H,callF PP orc (k + 1) impl_MasksValid.id [.sl 1 a0,.int .i64 a1] H=f (callF PP orc k) k a0 a1 H:=by
 intros a0 a1 H
 rw [callF_at (fn:=Go.Proofs.Try.f23) (c:=body) Go.Proofs.Try.func23 (by kernel_rfl) (Nat.le_of_ble_eq_true (by kernel_rfl)),f_eq]
 kernel_rfl
end impl_MasksValid




end Go.Proofs.Ytjojhbdghhmeeaa.Rp
