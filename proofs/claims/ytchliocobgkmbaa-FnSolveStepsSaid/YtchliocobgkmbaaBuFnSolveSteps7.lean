/- Texts for the row of the law FnSolveSteps, part 7: the plain machine, the program's functions on it, what they come to. No conditions. -/
import Derived.Test.YtchliocobgkmbaaAb
import Derived.Test.YtchliocobgkmbaaOr
set_option linter.unusedVariables false
set_option linter.unusedSimpArgs false
set_option maxRecDepth 100000
namespace Go.Proofs.Ytchliocobgkmbaa.Rp
open Go Go.Proofs.Ytchliocobgkmbaa.Ab
namespace spec_StartMasks
noncomputable def body:Code:=(Go.Proofs.Try.f32).body.getD .skip
abbrev o:=orc spec_StartMasks.id
abbrev TL0:=Sl→Int→Int→Sl→Sl→Hp→An
abbrev PhL0 (rec:Rec) (k n0:Nat) (L0:TL0):Prop:=∀ x3 x4 y1_0 y1_1 y1_2 H,L0 x3 x4 y1_0 y1_1 y1_2 H=iter (o.at (lbody (sub body [1,1,0,1,0]))) (ex PP o rec k (lbody (sub body [1,1,0,1,0]))) (kAt PP o rec k body [1,1,0,1,0] [] (K0 PP Go.Proofs.Try.f32)) n0 (St.of 41 [(1,.lp 1 0),(3,.sl 1 x3),(4,.int .i64 x4)] [(1,[.int .i64 y1_0,.sl 1 y1_1,.sl 3 y1_2])]) H
noncomputable def j3 (rec:Rec) (k:Nat) (x3:Sl) (H:Hp):An:=some (.sl 1 x3,H)
noncomputable def j4 (rec:Rec) (k:Nat) (L0:TL0) (x3:Sl) (x4:Int) (y1_0:Int) (y1_1:Sl) (y1_2:Sl) (H:Hp):An:=L0 x3 (IntKind.i64.wrap (x4 + 1)) y1_0 y1_1 y1_2 H
noncomputable def j2 (rec:Rec) (k:Nat) (L0:TL0) (x3:Sl) (x4:Int) (y1_0:Int) (y1_1:Sl) (y1_2:Sl) (H:Hp):An:=bif decide (0 ≤ (x4:Int)) && decide ((x4:Int) < y1_1.len) then (ldI .i64 H y1_1.blk (y1_1.off + (x4:Int).toNat * 1)).bind fun n3=>bif decide (n3 > 0) then bif decide (0 ≤ (x4:Int)) && decide ((x4:Int) < y1_1.len) then (ldI .i64 H y1_1.blk (y1_1.off + (x4:Int).toNat * 1)).bind fun n4=>if (n4:Int) < 0 then none else (H.app 1 x3 1 [.int .i64 (IntKind.i64.wrap (1 * 2 ^ (min (n4:Int).toNat IntKind.i64.bits)))]).bind fun w5=>j4 rec k L0 w5.1 x4 y1_0 y1_1 y1_2 w5.2 else none else if (IntKind.i64.wrap (y1_0 + 1):Int) < 0 then none else (H.app 1 x3 1 [.int .i64 (IntKind.i64.wrap ((IntKind.i64.wrap (1 * 2 ^ (min (IntKind.i64.wrap (y1_0 + 1):Int).toNat IntKind.i64.bits))) - 2))]).bind fun w6=>j4 rec k L0 w6.1 x4 y1_0 y1_1 y1_2 w6.2 else none
noncomputable def j1 (rec:Rec) (k:Nat) (L0:TL0) (x3:Sl) (x4:Int) (x14:Bool) (y1_0:Int) (y1_1:Sl) (y1_2:Sl) (H:Hp):An:=bif x14 then j2 rec k L0 x3 x4 y1_0 y1_1 y1_2 H else j3 rec k x3 H
noncomputable def l0 (rec:Rec) (k:Nat):Nat→Sl→Int→Int→Sl→Sl→Hp→An
 | 0,_,_,_,_,_,_=>none
 | n + 1,x3,x4,y1_0,y1_1,y1_2,H=>bif decide (x4 < (y1_1.len:Int)) then (rec spec_PuzzleValid.id [.agg [.int .i64 y1_0,.sl 1 y1_1,.sl 3 y1_2]] H).bind fun r1=>r1.1.toB.bind fun b2=>j1 rec k (l0 rec k n) x3 x4 b2 y1_0 y1_1 y1_2 r1.2 else j1 rec k (l0 rec k n) x3 x4 false y1_0 y1_1 y1_2 H
noncomputable def f (rec:Rec) (k:Nat) (a0_0:Int) (a0_1:Sl) (a0_2:Sl) (H:Hp):An:=l0 rec k k (Sl.mk false H.length 0 0) 0 a0_0 a0_1 a0_2 (H ++ [some (Blk.mk false [])])
theorem j3_eq (rec:Rec) (k:Nat):∀ x3 H,j3 rec k x3 H=ex PP o rec k (sub body [1,1,1]) (St.of 41 [(3,.sl 1 x3)] []) H (kAt PP o rec k body [1,1,1] [] (K0 PP Go.Proofs.Try.f32)):=by
 intros x3 H
 unfold j3
 kernel_rfl
theorem j4_eq (rec:Rec) (k:Nat) (n0:Nat) (L0:TL0) (hL0:PhL0 rec k n0 L0):∀ x3 x4 y1_0 y1_1 y1_2 H,j4 rec k L0 x3 x4 y1_0 y1_1 y1_2 H=ex PP o rec k (sub body [1,1,0,1,0,0,1,1]) (St.of 41 [(1,.lp 1 0),(3,.sl 1 x3),(4,.int .i64 x4)] [(1,[.int .i64 y1_0,.sl 1 y1_1,.sl 3 y1_2])]) H (kAt PP o rec k body [1,1,0,1,0,0,1,1] [n0] (K0 PP Go.Proofs.Try.f32)):=by
 intros x3 x4 y1_0 y1_1 y1_2 H
 unfold j4
 try simp only [hL0,-eq_self]
 kernel_rfl
theorem j2_eq (rec:Rec) (k:Nat) (n0:Nat) (L0:TL0) (hL0:PhL0 rec k n0 L0):∀ x3 x4 y1_0 y1_1 y1_2 H,j2 rec k L0 x3 x4 y1_0 y1_1 y1_2 H=ex PP o rec k (sub body [1,1,0,1,0,0,1]) (St.of 41 [(1,.lp 1 0),(3,.sl 1 x3),(4,.int .i64 x4)] [(1,[.int .i64 y1_0,.sl 1 y1_1,.sl 3 y1_2])]) H (kAt PP o rec k body [1,1,0,1,0,0,1] [n0] (K0 PP Go.Proofs.Try.f32)):=by
 intros x3 x4 y1_0 y1_1 y1_2 H
 unfold j2
 try simp only [hL0,j4_eq rec k n0 L0 hL0,-eq_self]
 kernel_rfl
theorem j1_eq (rec:Rec) (k:Nat) (n0:Nat) (L0:TL0) (hL0:PhL0 rec k n0 L0):∀ x3 x4 x14 y1_0 y1_1 y1_2 H,j1 rec k L0 x3 x4 x14 y1_0 y1_1 y1_2 H=ex PP o rec k (sub body [1,1,0,1,0,0,0,1]) (St.of 41 [(1,.lp 1 0),(3,.sl 1 x3),(4,.int .i64 x4),(14,.bool x14)] [(1,[.int .i64 y1_0,.sl 1 y1_1,.sl 3 y1_2])]) H (kAt PP o rec k body [1,1,0,1,0,0,0,1] [n0] (K0 PP Go.Proofs.Try.f32)):=by
 intros x3 x4 x14 y1_0 y1_1 y1_2 H
 unfold j1
 try simp only [hL0,j2_eq rec k n0 L0 hL0,j3_eq rec k,-eq_self]
 kernel_rfl
theorem l0_eq (rec:Rec) (k:Nat):∀ n x3 x4 y1_0 y1_1 y1_2 H,l0 rec k n x3 x4 y1_0 y1_1 y1_2 H=iter (o.at (lbody (sub body [1,1,0,1,0]))) (ex PP o rec k (lbody (sub body [1,1,0,1,0]))) (kAt PP o rec k body [1,1,0,1,0] [] (K0 PP Go.Proofs.Try.f32)) n (St.of 41 [(1,.lp 1 0),(3,.sl 1 x3),(4,.int .i64 x4)] [(1,[.int .i64 y1_0,.sl 1 y1_1,.sl 3 y1_2])]) H:=by
 intro n
 induction n with
 | zero=>intros; rfl
 | succ n ih=>
  intros x3 x4 y1_0 y1_1 y1_2 H
  simp only [l0,j1_eq rec k n (l0 rec k n) (fun x3 x4 y1_0 y1_1 y1_2 H=>ih x3 x4 y1_0 y1_1 y1_2 H),ih,-eq_self]
  kernel_rfl
theorem f_eq (rec:Rec) (k:Nat):∀ a0_0 a0_1 a0_2 H,f rec k a0_0 a0_1 a0_2 H=ex PP o rec k body (St.of 41 [(0,.agg [.int .i64 a0_0,.sl 1 a0_1,.sl 3 a0_2])] []) H (K0 PP Go.Proofs.Try.f32):=by
 intros a0_0 a0_1 a0_2 H
 unfold f
 try simp only [l0_eq rec k,-eq_self]
 kernel_rfl
theorem call (k:Nat):∀ a0_0 a0_1 a0_2 H,callF PP orc (k + 1) spec_StartMasks.id [.agg [.int .i64 a0_0,.sl 1 a0_1,.sl 3 a0_2]] H=f (callF PP orc k) k a0_0 a0_1 a0_2 H:=by
 intros a0_0 a0_1 a0_2 H
 rw [callF_at (fn:=Go.Proofs.Try.f32) (c:=body) Go.Proofs.Try.func32 (by kernel_rfl) (Nat.le_of_ble_eq_true (by kernel_rfl)),f_eq]
 kernel_rfl
end spec_StartMasks
namespace spec_l6Copy
noncomputable def body:Code:=(Go.Proofs.Try.f67).body.getD .skip
noncomputable def f (rec:Rec) (k:Nat) (a0:Sl) (H:Hp):An:=(H.read 1 a0).bind fun c2=>(H.appl 1 [] 0 a0.len c2).bind fun w1=>bif true && c2.all AV.cell then some (.sl 1 w1.1,w1.2) else none
theorem f_eq (rec:Rec) (k:Nat):∀ a0 H,f rec k a0 H=ex PP (orc spec_l6Copy.id) rec k body (St.of 6 [(0,.sl 1 a0)] []) H (K0 PP Go.Proofs.Try.f67):=by
 intros a0 H
 unfold f
 kernel_rfl
theorem call (k:Nat):∀ a0 H,callF PP orc (k + 1) spec_l6Copy.id [.sl 1 a0] H=f (callF PP orc k) k a0 H:=by
 intros a0 H
 rw [callF_at (fn:=Go.Proofs.Try.f67) (c:=body) Go.Proofs.Try.func67 (by kernel_rfl) (Nat.le_of_ble_eq_true (by kernel_rfl)),f_eq]
 kernel_rfl
end spec_l6Copy
namespace spec_NarrowSingles
noncomputable def body:Code:=(Go.Proofs.Try.f101).body.getD .skip
abbrev o:=orc spec_NarrowSingles.id
abbrev TL0:=Sl→Int→Sl→Int→Hp→An
abbrev TL2:=Sl→Int→Sl→Int→Int→Hp→An
abbrev PhL0 (rec:Rec) (k n0:Nat) (L0:TL0):Prop:=∀ x0 x1 x5 x6 H,L0 x0 x1 x5 x6 H=iter (o.at (lbody (sub body [1,1,1,0,1,0]))) (ex PP o rec k (lbody (sub body [1,1,1,0,1,0]))) (kAt PP o rec k body [1,1,1,0,1,0] [] (K0 PP Go.Proofs.Try.f101)) n0 (St.of 68 [(0,.sl 1 x0),(1,.int .i64 x1),(5,.sl 1 x5),(6,.int .i64 x6)] []) H
abbrev PhL2 (rec:Rec) (k n0 n2:Nat) (L2:TL2):Prop:=∀ x0 x1 x5 x6 x7 H,L2 x0 x1 x5 x6 x7 H=iter (o.at (lbody (sub body [1,1,1,0,1,0,0,1,0,0,1,1,0]))) (ex PP o rec k (lbody (sub body [1,1,1,0,1,0,0,1,0,0,1,1,0]))) (kAt PP o rec k body [1,1,1,0,1,0,0,1,0,0,1,1,0] [n0] (K0 PP Go.Proofs.Try.f101)) n2 (St.of 68 [(0,.sl 1 x0),(1,.int .i64 x1),(5,.sl 1 x5),(6,.int .i64 x6),(7,.int .i64 x7)] []) H
noncomputable def j1 (rec:Rec) (k:Nat) (L0:TL0) (x0:Sl) (x1:Int) (x5:Sl) (x6:Int) (H:Hp):An:=L0 x0 x1 x5 (IntKind.i64.wrap (x6 + 1)) H
noncomputable def j3 (rec:Rec) (k:Nat) (x5:Sl) (H:Hp):An:=some (.sl 1 x5,H)
noncomputable def j5 (rec:Rec) (k:Nat) (L0:TL0) (L2:TL2) (x0:Sl) (x1:Int) (x5:Sl) (x6:Int) (x7:Int) (H:Hp):An:=L2 x0 x1 x5 x6 (IntKind.i64.wrap (x7 + 1)) H
noncomputable def j4 (rec:Rec) (k:Nat) (L0:TL0) (L2:TL2) (x0:Sl) (x1:Int) (x5:Sl) (x6:Int) (x7:Int) (x54:Bool) (H:Hp):An:=bif x54 then bif decide (0 ≤ (x7:Int)) && decide ((x7:Int) < x5.len) then (ldI .i64 H x5.blk (x5.off + (x7:Int).toNat * 1)).bind fun n8=>bif decide (0 ≤ (x6:Int)) && decide ((x6:Int) < x0.len) then (ldI .i64 H x0.blk (x0.off + (x6:Int).toNat * 1)).bind fun n9=>bif decide (0 ≤ (x7:Int)) && decide ((x7:Int) < x5.len) then (H.sto x5.blk (x5.off + (x7:Int).toNat * 1) [.int .i64 (IntKind.i64.wrap (((BitVec.ofInt IntKind.i64.bits n8 &&& ~~~ (BitVec.ofInt IntKind.i64.bits n9)).toNat:Int)))]).bind fun H10=>j5 rec k L0 L2 x0 x1 x5 x6 x7 H10 else none else none else none else j5 rec k L0 L2 x0 x1 x5 x6 x7 H
noncomputable def l2 (rec:Rec) (k:Nat) (L0:TL0):Nat→Sl→Int→Sl→Int→Int→Hp→An
 | 0,_,_,_,_,_,_=>none
 | n + 1,x0,x1,x5,x6,x7,H=>bif decide (x7 < (x0.len:Int)) then bif x7 != x6 then if (x1:Int)=0 then none else if (x1:Int)=0 then none else bif (IntKind.i64.wrap ((x7:Int).tdiv x1)) == (IntKind.i64.wrap ((x6:Int).tdiv x1)) then j4 rec k L0 (l2 rec k L0 n) x0 x1 x5 x6 x7 true H else if (x1:Int)=0 then none else if (x1:Int)=0 then none else j4 rec k L0 (l2 rec k L0 n) x0 x1 x5 x6 x7 (((x7:Int).tmod x1) == ((x6:Int).tmod x1)) H else j4 rec k L0 (l2 rec k L0 n) x0 x1 x5 x6 x7 false H else j1 rec k L0 x0 x1 x5 x6 H
noncomputable def l0 (rec:Rec) (k:Nat):Nat→Sl→Int→Sl→Int→Hp→An
 | 0,_,_,_,_,_=>none
 | n + 1,x0,x1,x5,x6,H=>bif decide (x6 < (x0.len:Int)) then bif decide (0 ≤ (x6:Int)) && decide ((x6:Int) < x0.len) then (ldI .i64 H x0.blk (x0.off + (x6:Int).toNat * 1)).bind fun n5=>(rec spec_MaskValues.id [.int .i64 n5] H).bind fun r6=>(r6.1.toS 1).bind fun s7=>bif (s7.len:Int) != 1 then j1 rec k (l0 rec k n) x0 x1 x5 x6 r6.2 else l2 rec k (l0 rec k n) k x0 x1 x5 x6 0 r6.2 else none else j3 rec k x5 H
noncomputable def f (rec:Rec) (k:Nat) (a0:Sl) (a1:Int) (H:Hp):An:=(rec spec_MasksValid.id [.sl 1 a0,.int .i64 a1] H).bind fun r1=>r1.1.toB.bind fun b2=>bif !b2 then some (.sl 1 (Sl.mk false r1.2.length 0 0),r1.2 ++ [some (Blk.mk false [])]) else (rec spec_l6Copy.id [.sl 1 a0] r1.2).bind fun r3=>(r3.1.toS 1).bind fun s4=>l0 rec k k a0 a1 s4 0 r3.2
theorem j1_eq (rec:Rec) (k:Nat) (n0:Nat) (L0:TL0) (hL0:PhL0 rec k n0 L0):∀ x0 x1 x5 x6 H,j1 rec k L0 x0 x1 x5 x6 H=ex PP o rec k (sub body [1,1,1,0,1,0,0,1,1]) (St.of 68 [(0,.sl 1 x0),(1,.int .i64 x1),(5,.sl 1 x5),(6,.int .i64 x6)] []) H (kAt PP o rec k body [1,1,1,0,1,0,0,1,1] [n0] (K0 PP Go.Proofs.Try.f101)):=by
 intros x0 x1 x5 x6 H
 simp only [j1,hL0,-eq_self]
 kernel_rfl
theorem j3_eq (rec:Rec) (k:Nat):∀ x5 H,j3 rec k x5 H=ex PP o rec k (sub body [1,1,1,1]) (St.of 68 [(5,.sl 1 x5)] []) H (kAt PP o rec k body [1,1,1,1] [] (K0 PP Go.Proofs.Try.f101)):=by
 intros x5 H
 simp only [j3,-eq_self]
 kernel_rfl
theorem j5_eq (rec:Rec) (k:Nat) (n0:Nat) (L0:TL0) (hL0:PhL0 rec k n0 L0) (n2:Nat) (L2:TL2) (hL2:PhL2 rec k n0 n2 L2):∀ x0 x1 x5 x6 x7 H,j5 rec k L0 L2 x0 x1 x5 x6 x7 H=ex PP o rec k (sub body [1,1,1,0,1,0,0,1,0,0,1,1,0,0,1,1]) (St.of 68 [(0,.sl 1 x0),(1,.int .i64 x1),(5,.sl 1 x5),(6,.int .i64 x6),(7,.int .i64 x7)] []) H (kAt PP o rec k body [1,1,1,0,1,0,0,1,0,0,1,1,0,0,1,1] [n0,n2] (K0 PP Go.Proofs.Try.f101)):=by
 intros x0 x1 x5 x6 x7 H
 simp only [j5,hL0,hL2,-eq_self]
 kernel_rfl
theorem j4_eq (rec:Rec) (k:Nat) (n0:Nat) (L0:TL0) (hL0:PhL0 rec k n0 L0) (n2:Nat) (L2:TL2) (hL2:PhL2 rec k n0 n2 L2):∀ x0 x1 x5 x6 x7 x54 H,j4 rec k L0 L2 x0 x1 x5 x6 x7 x54 H=ex PP o rec k (sub body [1,1,1,0,1,0,0,1,0,0,1,1,0,0,1,0,0,1]) (St.of 68 [(0,.sl 1 x0),(1,.int .i64 x1),(5,.sl 1 x5),(6,.int .i64 x6),(7,.int .i64 x7),(54,.bool x54)] []) H (kAt PP o rec k body [1,1,1,0,1,0,0,1,0,0,1,1,0,0,1,0,0,1] [n0,n2] (K0 PP Go.Proofs.Try.f101)):=by
 intros x0 x1 x5 x6 x7 x54 H
 simp only [j4,j5,hL0,hL2,-eq_self]
 kernel_rfl
theorem l2_eq (rec:Rec) (k:Nat) (n0:Nat) (L0:TL0) (hL0:PhL0 rec k n0 L0):∀ n x0 x1 x5 x6 x7 H,l2 rec k L0 n x0 x1 x5 x6 x7 H=iter (o.at (lbody (sub body [1,1,1,0,1,0,0,1,0,0,1,1,0]))) (ex PP o rec k (lbody (sub body [1,1,1,0,1,0,0,1,0,0,1,1,0]))) (kAt PP o rec k body [1,1,1,0,1,0,0,1,0,0,1,1,0] [n0] (K0 PP Go.Proofs.Try.f101)) n (St.of 68 [(0,.sl 1 x0),(1,.int .i64 x1),(5,.sl 1 x5),(6,.int .i64 x6),(7,.int .i64 x7)] []) H:=by
 intro n
 induction n with
 | zero=>intros; rfl
 | succ n ih=>
  intros x0 x1 x5 x6 x7 H
  simp only [l2,j4,j1,j5,hL0,ih,-eq_self]
  kernel_rfl
theorem l0_eq (rec:Rec) (k:Nat):∀ n x0 x1 x5 x6 H,l0 rec k n x0 x1 x5 x6 H=iter (o.at (lbody (sub body [1,1,1,0,1,0]))) (ex PP o rec k (lbody (sub body [1,1,1,0,1,0]))) (kAt PP o rec k body [1,1,1,0,1,0] [] (K0 PP Go.Proofs.Try.f101)) n (St.of 68 [(0,.sl 1 x0),(1,.int .i64 x1),(5,.sl 1 x5),(6,.int .i64 x6)] []) H:=by
 intro n
 induction n with
 | zero=>intros; rfl
 | succ n ih=>
  intros x0 x1 x5 x6 H
  simp only [l0,j1,j3,l2_eq rec k n (l0 rec k n) (fun x0 x1 x5 x6 H=>ih x0 x1 x5 x6 H),ih,-eq_self]
  kernel_rfl
theorem f_eq (rec:Rec) (k:Nat):∀ a0 a1 H,f rec k a0 a1 H=ex PP o rec k body (St.of 68 [(0,.sl 1 a0),(1,.int .i64 a1)] []) H (K0 PP Go.Proofs.Try.f101):=by
 intros a0 a1 H
 simp only [f,l0_eq rec k,-eq_self]
 kernel_rfl
theorem call (k:Nat):∀ a0 a1 H,callF PP orc (k + 1) spec_NarrowSingles.id [.sl 1 a0,.int .i64 a1] H=f (callF PP orc k) k a0 a1 H:=by
 intros a0 a1 H
 rw [callF_at (fn:=Go.Proofs.Try.f101) (c:=body) Go.Proofs.Try.func101 (by kernel_rfl) (Nat.le_of_ble_eq_true (by kernel_rfl)),f_eq]
 kernel_rfl
end spec_NarrowSingles
namespace spec_NarrowHidden
noncomputable def body:Code:=(Go.Proofs.Try.f102).body.getD .skip
abbrev o:=orc spec_NarrowHidden.id
abbrev TL0:=Sl→Int→Sl→Int→Hp→An
abbrev TL1:=Sl→Int→Sl→Int→Sl→Int→Hp→An
abbrev PhL0 (rec:Rec) (k n0:Nat) (L0:TL0):Prop:=∀ x0 x1 x5 x6 H,L0 x0 x1 x5 x6 H=iter (o.at (lbody (sub body [1,1,1,0,1,0]))) (ex PP o rec k (lbody (sub body [1,1,1,0,1,0]))) (kAt PP o rec k body [1,1,1,0,1,0] [] (K0 PP Go.Proofs.Try.f102)) n0 (St.of 69 [(0,.sl 1 x0),(1,.int .i64 x1),(5,.sl 1 x5),(6,.int .i64 x6)] []) H
abbrev PhL1 (rec:Rec) (k n0 n1:Nat) (L1:TL1):Prop:=∀ x0 x1 x5 x6 x7 x8 H,L1 x0 x1 x5 x6 x7 x8 H=iter (o.at (lbody (sub body [1,1,1,0,1,0,0,1,0,0,1,1,0]))) (ex PP o rec k (lbody (sub body [1,1,1,0,1,0,0,1,0,0,1,1,0]))) (kAt PP o rec k body [1,1,1,0,1,0,0,1,0,0,1,1,0] [n0] (K0 PP Go.Proofs.Try.f102)) n1 (St.of 69 [(0,.sl 1 x0),(1,.int .i64 x1),(5,.sl 1 x5),(6,.int .i64 x6),(7,.sl 1 x7),(8,.int .i64 x8)] []) H
noncomputable def j2 (rec:Rec) (k:Nat) (x5:Sl) (H:Hp):An:=some (.sl 1 x5,H)
noncomputable def j4 (rec:Rec) (k:Nat) (L0:TL0) (x0:Sl) (x1:Int) (x5:Sl) (x6:Int) (H:Hp):An:=L0 x0 x1 x5 (IntKind.i64.wrap (x6 + 1)) H
noncomputable def j5 (rec:Rec) (k:Nat) (L0:TL0) (L1:TL1) (L3:Sl→Int→Sl→Int→Sl→Int→Int→Int→Int→Hp→An) (x0:Sl) (x1:Int) (x5:Sl) (x6:Int) (x7:Sl) (x8:Int) (x9:Int) (x10:Int) (x11:Int) (H:Hp):An:=L3 x0 x1 x5 x6 x7 x8 x9 x10 (IntKind.i64.wrap (x11 + 1)) H
noncomputable def j7 (rec:Rec) (k:Nat) (L0:TL0) (L1:TL1) (x0:Sl) (x1:Int) (x5:Sl) (x6:Int) (x7:Sl) (x8:Int) (H:Hp):An:=L1 x0 x1 x5 x6 x7 (IntKind.i64.wrap (x8 + 1)) H
noncomputable def j6 (rec:Rec) (k:Nat) (L0:TL0) (L1:TL1) (x0:Sl) (x1:Int) (x5:Sl) (x6:Int) (x7:Sl) (x8:Int) (x9:Int) (x10:Int) (H:Hp):An:=bif x9 == 1 then bif decide (0 ≤ (x10:Int)) && decide ((x10:Int) < x5.len) then (ldI .i64 H x5.blk (x5.off + (x10:Int).toNat * 1)).bind fun n10=>if (x8:Int) < 0 then none else bif decide (0 ≤ (x10:Int)) && decide ((x10:Int) < x5.len) then (H.sto x5.blk (x5.off + (x10:Int).toNat * 1) [.int .i64 (IntKind.i64.wrap (((BitVec.ofInt IntKind.i64.bits n10 &&& BitVec.ofInt IntKind.i64.bits (IntKind.i64.wrap (1 * 2 ^ (min (x8:Int).toNat IntKind.i64.bits)))).toNat:Int)))]).bind fun H11=>j7 rec k L0 L1 x0 x1 x5 x6 x7 x8 H11 else none else none else j7 rec k L0 L1 x0 x1 x5 x6 x7 x8 H
noncomputable def l3 (rec:Rec) (k:Nat) (L0:TL0) (L1:TL1):Nat→Sl→Int→Sl→Int→Sl→Int→Int→Int→Int→Hp→An
 | 0,_,_,_,_,_,_,_,_,_,_=>none
 | n + 1,x0,x1,x5,x6,x7,x8,x9,x10,x11,H=>bif decide (x11 < (x7.len:Int)) then bif decide (0 ≤ (x11:Int)) && decide ((x11:Int) < x7.len) then (ldI .i64 H x7.blk (x7.off + (x11:Int).toNat * 1)).bind fun n7=>bif decide (0 ≤ (n7:Int)) && decide ((n7:Int) < x0.len) then (ldI .i64 H x0.blk (x0.off + (n7:Int).toNat * 1)).bind fun n8=>if (x8:Int) < 0 then none else bif (((n8:Int).fdiv (2 ^ (min (x8:Int).toNat IntKind.i64.bits)):Int).tmod 2) == 1 then bif decide (0 ≤ (x11:Int)) && decide ((x11:Int) < x7.len) then (ldI .i64 H x7.blk (x7.off + (x11:Int).toNat * 1)).bind fun n9=>j5 rec k L0 L1 (l3 rec k L0 L1 n) x0 x1 x5 x6 x7 x8 (IntKind.i64.wrap (x9 + 1)) n9 x11 H else none else j5 rec k L0 L1 (l3 rec k L0 L1 n) x0 x1 x5 x6 x7 x8 x9 x10 x11 H else none else none else j6 rec k L0 L1 x0 x1 x5 x6 x7 x8 x9 x10 H
noncomputable def l1 (rec:Rec) (k:Nat) (L0:TL0):Nat→Sl→Int→Sl→Int→Sl→Int→Hp→An
 | 0,_,_,_,_,_,_,_=>none
 | n + 1,x0,x1,x5,x6,x7,x8,H=>bif decide (x8 ≤ x1) then l3 rec k L0 (l1 rec k L0 n) k x0 x1 x5 x6 x7 x8 0 0 0 H else j4 rec k L0 x0 x1 x5 x6 H
noncomputable def l0 (rec:Rec) (k:Nat):Nat→Sl→Int→Sl→Int→Hp→An
 | 0,_,_,_,_,_=>none
 | n + 1,x0,x1,x5,x6,H=>bif decide (x6 < (IntKind.i64.wrap (2 * x1))) then (rec spec_LineCells.id [.int .i64 x1,.int .i64 x6] H).bind fun r5=>(r5.1.toS 1).bind fun s6=>l1 rec k (l0 rec k n) k x0 x1 x5 x6 s6 1 r5.2 else j2 rec k x5 H
noncomputable def f (rec:Rec) (k:Nat) (a0:Sl) (a1:Int) (H:Hp):An:=(rec spec_MasksValid.id [.sl 1 a0,.int .i64 a1] H).bind fun r1=>r1.1.toB.bind fun b2=>bif !b2 then some (.sl 1 (Sl.mk false r1.2.length 0 0),r1.2 ++ [some (Blk.mk false [])]) else (rec spec_l6Copy.id [.sl 1 a0] r1.2).bind fun r3=>(r3.1.toS 1).bind fun s4=>l0 rec k k a0 a1 s4 0 r3.2
theorem j2_eq (rec:Rec) (k:Nat):∀ x5 H,j2 rec k x5 H=ex PP o rec k (sub body [1,1,1,1]) (St.of 69 [(5,.sl 1 x5)] []) H (kAt PP o rec k body [1,1,1,1] [] (K0 PP Go.Proofs.Try.f102)):=by
 intros x5 H
 unfold j2
 kernel_rfl
theorem j4_eq (rec:Rec) (k:Nat) (n0:Nat) (L0:TL0) (hL0:PhL0 rec k n0 L0):∀ x0 x1 x5 x6 H,j4 rec k L0 x0 x1 x5 x6 H=ex PP o rec k (sub body [1,1,1,0,1,0,0,1,1]) (St.of 69 [(0,.sl 1 x0),(1,.int .i64 x1),(5,.sl 1 x5),(6,.int .i64 x6)] []) H (kAt PP o rec k body [1,1,1,0,1,0,0,1,1] [n0] (K0 PP Go.Proofs.Try.f102)):=by
 intros x0 x1 x5 x6 H
 unfold j4
 try simp only [hL0,-eq_self]
 kernel_rfl
theorem j5_eq (rec:Rec) (k:Nat) (n0:Nat) (L0:TL0) (hL0:PhL0 rec k n0 L0) (n1:Nat) (L1:TL1) (hL1:PhL1 rec k n0 n1 L1) (n3:Nat) (L3:Sl→Int→Sl→Int→Sl→Int→Int→Int→Int→Hp→An) (hL3:∀ x0 x1 x5 x6 x7 x8 x9 x10 x11 H,L3 x0 x1 x5 x6 x7 x8 x9 x10 x11 H=iter (o.at (lbody (sub body [1,1,1,0,1,0,0,1,0,0,1,1,0,0,1,0,0,1,1,0,1,0]))) (ex PP o rec k (lbody (sub body [1,1,1,0,1,0,0,1,0,0,1,1,0,0,1,0,0,1,1,0,1,0]))) (kAt PP o rec k body [1,1,1,0,1,0,0,1,0,0,1,1,0,0,1,0,0,1,1,0,1,0] [n0,n1] (K0 PP Go.Proofs.Try.f102)) n3 (St.of 69 [(0,.sl 1 x0),(1,.int .i64 x1),(5,.sl 1 x5),(6,.int .i64 x6),(7,.sl 1 x7),(8,.int .i64 x8),(9,.int .i64 x9),(10,.int .i64 x10),(11,.int .i64 x11)] []) H):∀ x0 x1 x5 x6 x7 x8 x9 x10 x11 H,j5 rec k L0 L1 L3 x0 x1 x5 x6 x7 x8 x9 x10 x11 H=ex PP o rec k (sub body [1,1,1,0,1,0,0,1,0,0,1,1,0,0,1,0,0,1,1,0,1,0,0,1,1]) (St.of 69 [(0,.sl 1 x0),(1,.int .i64 x1),(5,.sl 1 x5),(6,.int .i64 x6),(7,.sl 1 x7),(8,.int .i64 x8),(9,.int .i64 x9),(10,.int .i64 x10),(11,.int .i64 x11)] []) H (kAt PP o rec k body [1,1,1,0,1,0,0,1,0,0,1,1,0,0,1,0,0,1,1,0,1,0,0,1,1] [n0,n1,n3] (K0 PP Go.Proofs.Try.f102)):=by
 intros x0 x1 x5 x6 x7 x8 x9 x10 x11 H
 unfold j5
 try simp only [hL0,hL1,hL3,-eq_self]
 kernel_rfl
theorem j7_eq (rec:Rec) (k:Nat) (n0:Nat) (L0:TL0) (hL0:PhL0 rec k n0 L0) (n1:Nat) (L1:TL1) (hL1:PhL1 rec k n0 n1 L1):∀ x0 x1 x5 x6 x7 x8 H,j7 rec k L0 L1 x0 x1 x5 x6 x7 x8 H=ex PP o rec k (sub body [1,1,1,0,1,0,0,1,0,0,1,1,0,0,1,1]) (St.of 69 [(0,.sl 1 x0),(1,.int .i64 x1),(5,.sl 1 x5),(6,.int .i64 x6),(7,.sl 1 x7),(8,.int .i64 x8)] []) H (kAt PP o rec k body [1,1,1,0,1,0,0,1,0,0,1,1,0,0,1,1] [n0,n1] (K0 PP Go.Proofs.Try.f102)):=by
 intros x0 x1 x5 x6 x7 x8 H
 unfold j7
 try simp only [hL0,hL1,-eq_self]
 kernel_rfl
theorem j6_eq (rec:Rec) (k:Nat) (n0:Nat) (L0:TL0) (hL0:PhL0 rec k n0 L0) (n1:Nat) (L1:TL1) (hL1:PhL1 rec k n0 n1 L1):∀ x0 x1 x5 x6 x7 x8 x9 x10 H,j6 rec k L0 L1 x0 x1 x5 x6 x7 x8 x9 x10 H=ex PP o rec k (sub body [1,1,1,0,1,0,0,1,0,0,1,1,0,0,1,0,0,1,1,1]) (St.of 69 [(0,.sl 1 x0),(1,.int .i64 x1),(5,.sl 1 x5),(6,.int .i64 x6),(7,.sl 1 x7),(8,.int .i64 x8),(9,.int .i64 x9),(10,.int .i64 x10)] []) H (kAt PP o rec k body [1,1,1,0,1,0,0,1,0,0,1,1,0,0,1,0,0,1,1,1] [n0,n1] (K0 PP Go.Proofs.Try.f102)):=by
 intros x0 x1 x5 x6 x7 x8 x9 x10 H
 unfold j6
 try simp only [hL0,hL1,j7_eq rec k n0 L0 hL0 n1 L1 hL1,-eq_self]
 kernel_rfl
theorem l3_eq (rec:Rec) (k:Nat) (n0:Nat) (L0:TL0) (hL0:PhL0 rec k n0 L0) (n1:Nat) (L1:TL1) (hL1:PhL1 rec k n0 n1 L1):∀ n x0 x1 x5 x6 x7 x8 x9 x10 x11 H,l3 rec k L0 L1 n x0 x1 x5 x6 x7 x8 x9 x10 x11 H=iter (o.at (lbody (sub body [1,1,1,0,1,0,0,1,0,0,1,1,0,0,1,0,0,1,1,0,1,0]))) (ex PP o rec k (lbody (sub body [1,1,1,0,1,0,0,1,0,0,1,1,0,0,1,0,0,1,1,0,1,0]))) (kAt PP o rec k body [1,1,1,0,1,0,0,1,0,0,1,1,0,0,1,0,0,1,1,0,1,0] [n0,n1] (K0 PP Go.Proofs.Try.f102)) n (St.of 69 [(0,.sl 1 x0),(1,.int .i64 x1),(5,.sl 1 x5),(6,.int .i64 x6),(7,.sl 1 x7),(8,.int .i64 x8),(9,.int .i64 x9),(10,.int .i64 x10),(11,.int .i64 x11)] []) H:=by
 intro n
 induction n with
 | zero=>intros; rfl
 | succ n ih=>
  intros x0 x1 x5 x6 x7 x8 x9 x10 x11 H
  simp only [l3,hL0,hL1,j5_eq rec k n0 L0 hL0 n1 L1 hL1 n (l3 rec k L0 L1 n) (fun x0 x1 x5 x6 x7 x8 x9 x10 x11 H=>ih x0 x1 x5 x6 x7 x8 x9 x10 x11 H),j6_eq rec k n0 L0 hL0 n1 L1 hL1,ih,-eq_self]
  kernel_rfl
theorem l1_eq (rec:Rec) (k:Nat) (n0:Nat) (L0:TL0) (hL0:PhL0 rec k n0 L0):∀ n x0 x1 x5 x6 x7 x8 H,l1 rec k L0 n x0 x1 x5 x6 x7 x8 H=iter (o.at (lbody (sub body [1,1,1,0,1,0,0,1,0,0,1,1,0]))) (ex PP o rec k (lbody (sub body [1,1,1,0,1,0,0,1,0,0,1,1,0]))) (kAt PP o rec k body [1,1,1,0,1,0,0,1,0,0,1,1,0] [n0] (K0 PP Go.Proofs.Try.f102)) n (St.of 69 [(0,.sl 1 x0),(1,.int .i64 x1),(5,.sl 1 x5),(6,.int .i64 x6),(7,.sl 1 x7),(8,.int .i64 x8)] []) H:=by
 intro n
 induction n with
 | zero=>intros; rfl
 | succ n ih=>
  intros x0 x1 x5 x6 x7 x8 H
  simp only [l1,hL0,l3_eq rec k n0 L0 hL0 n (l1 rec k L0 n) (fun x0 x1 x5 x6 x7 x8 H=>ih x0 x1 x5 x6 x7 x8 H),j4_eq rec k n0 L0 hL0,ih,-eq_self]
  kernel_rfl
theorem l0_eq (rec:Rec) (k:Nat):∀ n x0 x1 x5 x6 H,l0 rec k n x0 x1 x5 x6 H=iter (o.at (lbody (sub body [1,1,1,0,1,0]))) (ex PP o rec k (lbody (sub body [1,1,1,0,1,0]))) (kAt PP o rec k body [1,1,1,0,1,0] [] (K0 PP Go.Proofs.Try.f102)) n (St.of 69 [(0,.sl 1 x0),(1,.int .i64 x1),(5,.sl 1 x5),(6,.int .i64 x6)] []) H:=by
 intro n
 induction n with
 | zero=>intros; rfl
 | succ n ih=>
  intros x0 x1 x5 x6 H
  simp only [l0,l1_eq rec k n (l0 rec k n) (fun x0 x1 x5 x6 H=>ih x0 x1 x5 x6 H),j2_eq rec k,ih,-eq_self]
  kernel_rfl
theorem f_eq (rec:Rec) (k:Nat):∀ a0 a1 H,f rec k a0 a1 H=ex PP o rec k body (St.of 69 [(0,.sl 1 a0),(1,.int .i64 a1)] []) H (K0 PP Go.Proofs.Try.f102):=by
 intros a0 a1 H
 unfold f
 try simp only [l0_eq rec k,-eq_self]
 kernel_rfl
theorem call (k:Nat):∀ a0 a1 H,callF PP orc (k + 1) spec_NarrowHidden.id [.sl 1 a0,.int .i64 a1] H=f (callF PP orc k) k a0 a1 H:=by
 intros a0 a1 H
 rw [callF_at (fn:=Go.Proofs.Try.f102) (c:=body) Go.Proofs.Try.func102 (by kernel_rfl) (Nat.le_of_ble_eq_true (by kernel_rfl)),f_eq]
 kernel_rfl
end spec_NarrowHidden
namespace impl_NarrowSingles
noncomputable def body:Code:=(Go.Proofs.Try.f79).body.getD .skip
abbrev o:=orc impl_NarrowSingles.id
abbrev TL0:=Int→Sl→Sl→Int→Int→Hp→An
abbrev TL2:=Int→Sl→Int→Int→Sl→Int→Int→Int→Int→Hp→An
abbrev PhL0 (rec:Rec) (k n0:Nat) (L0:TL0):Prop:=∀ x1 x5 x17 x18 x19 H,L0 x1 x5 x17 x18 x19 H=iter (o.at (lbody (sub body [1,1,1,0,1,0]))) (ex PP o rec k (lbody (sub body [1,1,1,0,1,0]))) (kAt PP o rec k body [1,1,1,0,1,0] [] (K0 PP Go.Proofs.Try.f79)) n0 (St.of 65 [(1,.int .i64 x1),(5,.sl 1 x5),(17,.sl 1 x17),(18,.int .i64 x18),(19,.int .i64 x19)] []) H
abbrev PhL2 (rec:Rec) (k n0 n2:Nat) (L2:TL2):Prop:=∀ x1 x5 x6 x7 x17 x18 x19 x27 x28 H,L2 x1 x5 x6 x7 x17 x18 x19 x27 x28 H=iter (o.at (lbody (sub body [1,1,1,0,1,0,0,1,1,0,0,1,1,1,0]))) (ex PP o rec k (lbody (sub body [1,1,1,0,1,0,0,1,1,0,0,1,1,1,0]))) (kAt PP o rec k body [1,1,1,0,1,0,0,1,1,0,0,1,1,1,0] [n0] (K0 PP Go.Proofs.Try.f79)) n2 (St.of 65 [(1,.int .i64 x1),(5,.sl 1 x5),(6,.int .i64 x6),(7,.int .i64 x7),(17,.sl 1 x17),(18,.int .i64 x18),(19,.int .i64 x19),(27,.int .i64 x27),(28,.int .i64 x28)] []) H
noncomputable def j1 (rec:Rec) (k:Nat) (L0:TL0) (x1:Int) (x5:Sl) (x17:Sl) (x18:Int) (x19:Int) (H:Hp):An:=L0 x1 x5 x17 x18 (IntKind.i64.wrap (x19 + 1)) H
noncomputable def j3 (rec:Rec) (k:Nat) (x5:Sl) (H:Hp):An:=some (.sl 1 x5,H)
noncomputable def j5 (rec:Rec) (k:Nat) (L0:TL0) (L2:TL2) (L4:Int→Sl→Int→Int→Sl→Int→Int→Int→Int→Sl→Int→Int→Hp→An) (x1:Int) (x5:Sl) (x6:Int) (x7:Int) (x17:Sl) (x18:Int) (x19:Int) (x27:Int) (x28:Int) (x45:Sl) (x46:Int) (x47:Int) (H:Hp):An:=L4 x1 x5 x6 x7 x17 x18 x19 x27 x28 x45 x46 (IntKind.i64.wrap (x47 + 1)) H
noncomputable def j6 (rec:Rec) (k:Nat) (L0:TL0) (L2:TL2) (x1:Int) (x5:Sl) (x6:Int) (x7:Int) (x17:Sl) (x18:Int) (x19:Int) (x27:Int) (x28:Int) (H:Hp):An:=L2 x1 x5 x6 x7 x17 x18 x19 x27 (IntKind.i64.wrap (x28 + 1)) H
noncomputable def l4 (rec:Rec) (k:Nat) (L0:TL0) (L2:TL2):Nat→Int→Sl→Int→Int→Sl→Int→Int→Int→Int→Sl→Int→Int→Hp→An
 | 0,_,_,_,_,_,_,_,_,_,_,_,_,_=>none
 | n + 1,x1,x5,x6,x7,x17,x18,x19,x27,x28,x45,x46,x47,H=>bif decide (x47 < x46) then bif decide (0 ≤ (x47:Int)) && decide ((x47:Int) < x45.len) then (ldI .i64 H x45.blk (x45.off + (x47:Int).toNat * 1)).bind fun n8=>bif n8 != x6 then bif decide (0 ≤ (n8:Int)) && decide ((n8:Int) < x5.len) then (ldI .i64 H x5.blk (x5.off + (n8:Int).toNat * 1)).bind fun n9=>bif decide (0 ≤ (n8:Int)) && decide ((n8:Int) < x5.len) then (H.sto x5.blk (x5.off + (n8:Int).toNat * 1) [.int .i64 (IntKind.i64.wrap (((BitVec.ofInt IntKind.i64.bits n9 &&& ~~~ (BitVec.ofInt IntKind.i64.bits x7)).toNat:Int)))]).bind fun H10=>j5 rec k L0 L2 (l4 rec k L0 L2 n) x1 x5 x6 x7 x17 x18 x19 x27 x28 x45 x46 x47 H10 else none else none else j5 rec k L0 L2 (l4 rec k L0 L2 n) x1 x5 x6 x7 x17 x18 x19 x27 x28 x45 x46 x47 H else none else j6 rec k L0 L2 x1 x5 x6 x7 x17 x18 x19 x27 x28 H
noncomputable def l2 (rec:Rec) (k:Nat) (L0:TL0):Nat→Int→Sl→Int→Int→Sl→Int→Int→Int→Int→Hp→An
 | 0,_,_,_,_,_,_,_,_,_,_=>none
 | n + 1,x1,x5,x6,x7,x17,x18,x19,x27,x28,H=>bif decide (x28 < x27) then if (x1:Int)=0 then none else if (x1:Int)=0 then none else l4 rec k L0 (l2 rec k L0 n) k x1 x5 x6 x7 x17 x18 x19 x27 x28 (Sl.mk false H.length 0 2) ((Sl.mk false H.length 0 2).len:Int) 0 (H ++ [some (Blk.mk false [.int .i64 (IntKind.i64.wrap ((IntKind.i64.wrap ((IntKind.i64.wrap ((x6:Int).tdiv x1)) * x1)) + x28)),.int .i64 (IntKind.i64.wrap ((IntKind.i64.wrap (x28 * x1)) + ((x6:Int).tmod x1)))])]) else j1 rec k L0 x1 x5 x17 x18 x19 H
noncomputable def l0 (rec:Rec) (k:Nat):Nat→Int→Sl→Sl→Int→Int→Hp→An
 | 0,_,_,_,_,_,_=>none
 | n + 1,x1,x5,x17,x18,x19,H=>bif decide (x19 < x18) then bif decide (0 ≤ (x19:Int)) && decide ((x19:Int) < x17.len) then (ldI .i64 H x17.blk (x17.off + (x19:Int).toNat * 1)).bind fun n5=>(rec impl_onlyValue.id [.int .i64 n5] H).bind fun r6=>(r6.1.toI .i64).bind fun n7=>bif n7 == 0 then j1 rec k (l0 rec k n) x1 x5 x17 x18 x19 r6.2 else l2 rec k (l0 rec k n) k x1 x5 x19 n5 x17 x18 x19 x1 0 r6.2 else none else j3 rec k x5 H
noncomputable def f (rec:Rec) (k:Nat) (a0:Sl) (a1:Int) (H:Hp):An:=(rec impl_MasksValid.id [.sl 1 a0,.int .i64 a1] H).bind fun r1=>r1.1.toB.bind fun b2=>bif !b2 then some (.sl 1 Sl.none,r1.2) else (rec slices_Clone_int.id [.sl 1 a0] r1.2).bind fun r3=>(r3.1.toS 1).bind fun s4=>l0 rec k k a1 s4 a0 (a0.len:Int) 0 r3.2
theorem j1_eq (rec:Rec) (k:Nat) (n0:Nat) (L0:TL0) (hL0:PhL0 rec k n0 L0):∀ x1 x5 x17 x18 x19 H,j1 rec k L0 x1 x5 x17 x18 x19 H=ex PP o rec k (sub body [1,1,1,0,1,0,0,1,1,1]) (St.of 65 [(1,.int .i64 x1),(5,.sl 1 x5),(17,.sl 1 x17),(18,.int .i64 x18),(19,.int .i64 x19)] []) H (kAt PP o rec k body [1,1,1,0,1,0,0,1,1,1] [n0] (K0 PP Go.Proofs.Try.f79)):=by
 intros x1 x5 x17 x18 x19 H
 unfold j1
 try simp only [hL0,-eq_self]
 kernel_rfl
theorem j3_eq (rec:Rec) (k:Nat):∀ x5 H,j3 rec k x5 H=ex PP o rec k (sub body [1,1,1,1]) (St.of 65 [(5,.sl 1 x5)] []) H (kAt PP o rec k body [1,1,1,1] [] (K0 PP Go.Proofs.Try.f79)):=by
 intros x5 H
 unfold j3
 kernel_rfl
theorem j5_eq (rec:Rec) (k:Nat) (n0:Nat) (L0:TL0) (hL0:PhL0 rec k n0 L0) (n2:Nat) (L2:TL2) (hL2:PhL2 rec k n0 n2 L2) (n4:Nat) (L4:Int→Sl→Int→Int→Sl→Int→Int→Int→Int→Sl→Int→Int→Hp→An) (hL4:∀ x1 x5 x6 x7 x17 x18 x19 x27 x28 x45 x46 x47 H,L4 x1 x5 x6 x7 x17 x18 x19 x27 x28 x45 x46 x47 H=iter (o.at (lbody (sub body [1,1,1,0,1,0,0,1,1,0,0,1,1,1,0,0,1,1,0,0,1,1,0]))) (ex PP o rec k (lbody (sub body [1,1,1,0,1,0,0,1,1,0,0,1,1,1,0,0,1,1,0,0,1,1,0]))) (kAt PP o rec k body [1,1,1,0,1,0,0,1,1,0,0,1,1,1,0,0,1,1,0,0,1,1,0] [n0,n2] (K0 PP Go.Proofs.Try.f79)) n4 (St.of 65 [(1,.int .i64 x1),(5,.sl 1 x5),(6,.int .i64 x6),(7,.int .i64 x7),(17,.sl 1 x17),(18,.int .i64 x18),(19,.int .i64 x19),(27,.int .i64 x27),(28,.int .i64 x28),(45,.sl 1 x45),(46,.int .i64 x46),(47,.int .i64 x47)] []) H):∀ x1 x5 x6 x7 x17 x18 x19 x27 x28 x45 x46 x47 H,j5 rec k L0 L2 L4 x1 x5 x6 x7 x17 x18 x19 x27 x28 x45 x46 x47 H=ex PP o rec k (sub body [1,1,1,0,1,0,0,1,1,0,0,1,1,1,0,0,1,1,0,0,1,1,0,0,1,1,1]) (St.of 65 [(1,.int .i64 x1),(5,.sl 1 x5),(6,.int .i64 x6),(7,.int .i64 x7),(17,.sl 1 x17),(18,.int .i64 x18),(19,.int .i64 x19),(27,.int .i64 x27),(28,.int .i64 x28),(45,.sl 1 x45),(46,.int .i64 x46),(47,.int .i64 x47)] []) H (kAt PP o rec k body [1,1,1,0,1,0,0,1,1,0,0,1,1,1,0,0,1,1,0,0,1,1,0,0,1,1,1] [n0,n2,n4] (K0 PP Go.Proofs.Try.f79)):=by
 intros x1 x5 x6 x7 x17 x18 x19 x27 x28 x45 x46 x47 H
 unfold j5
 try simp only [hL0,hL2,hL4,-eq_self]
 kernel_rfl
theorem j6_eq (rec:Rec) (k:Nat) (n0:Nat) (L0:TL0) (hL0:PhL0 rec k n0 L0) (n2:Nat) (L2:TL2) (hL2:PhL2 rec k n0 n2 L2):∀ x1 x5 x6 x7 x17 x18 x19 x27 x28 H,j6 rec k L0 L2 x1 x5 x6 x7 x17 x18 x19 x27 x28 H=ex PP o rec k (sub body [1,1,1,0,1,0,0,1,1,0,0,1,1,1,0,0,1,1,1]) (St.of 65 [(1,.int .i64 x1),(5,.sl 1 x5),(6,.int .i64 x6),(7,.int .i64 x7),(17,.sl 1 x17),(18,.int .i64 x18),(19,.int .i64 x19),(27,.int .i64 x27),(28,.int .i64 x28)] []) H (kAt PP o rec k body [1,1,1,0,1,0,0,1,1,0,0,1,1,1,0,0,1,1,1] [n0,n2] (K0 PP Go.Proofs.Try.f79)):=by
 intros x1 x5 x6 x7 x17 x18 x19 x27 x28 H
 unfold j6
 try simp only [hL0,hL2,-eq_self]
 kernel_rfl
theorem l4_eq (rec:Rec) (k:Nat) (n0:Nat) (L0:TL0) (hL0:PhL0 rec k n0 L0) (n2:Nat) (L2:TL2) (hL2:PhL2 rec k n0 n2 L2):∀ n x1 x5 x6 x7 x17 x18 x19 x27 x28 x45 x46 x47 H,l4 rec k L0 L2 n x1 x5 x6 x7 x17 x18 x19 x27 x28 x45 x46 x47 H=iter (o.at (lbody (sub body [1,1,1,0,1,0,0,1,1,0,0,1,1,1,0,0,1,1,0,0,1,1,0]))) (ex PP o rec k (lbody (sub body [1,1,1,0,1,0,0,1,1,0,0,1,1,1,0,0,1,1,0,0,1,1,0]))) (kAt PP o rec k body [1,1,1,0,1,0,0,1,1,0,0,1,1,1,0,0,1,1,0,0,1,1,0] [n0,n2] (K0 PP Go.Proofs.Try.f79)) n (St.of 65 [(1,.int .i64 x1),(5,.sl 1 x5),(6,.int .i64 x6),(7,.int .i64 x7),(17,.sl 1 x17),(18,.int .i64 x18),(19,.int .i64 x19),(27,.int .i64 x27),(28,.int .i64 x28),(45,.sl 1 x45),(46,.int .i64 x46),(47,.int .i64 x47)] []) H:=by
 intro n
 induction n with
 | zero=>intros; rfl
 | succ n ih=>
  intros x1 x5 x6 x7 x17 x18 x19 x27 x28 x45 x46 x47 H
  simp only [l4,hL0,hL2,j5_eq rec k n0 L0 hL0 n2 L2 hL2 n (l4 rec k L0 L2 n) (fun x1 x5 x6 x7 x17 x18 x19 x27 x28 x45 x46 x47 H=>ih x1 x5 x6 x7 x17 x18 x19 x27 x28 x45 x46 x47 H),j6_eq rec k n0 L0 hL0 n2 L2 hL2,ih,-eq_self]
  kernel_rfl
theorem l2_eq (rec:Rec) (k:Nat) (n0:Nat) (L0:TL0) (hL0:PhL0 rec k n0 L0):∀ n x1 x5 x6 x7 x17 x18 x19 x27 x28 H,l2 rec k L0 n x1 x5 x6 x7 x17 x18 x19 x27 x28 H=iter (o.at (lbody (sub body [1,1,1,0,1,0,0,1,1,0,0,1,1,1,0]))) (ex PP o rec k (lbody (sub body [1,1,1,0,1,0,0,1,1,0,0,1,1,1,0]))) (kAt PP o rec k body [1,1,1,0,1,0,0,1,1,0,0,1,1,1,0] [n0] (K0 PP Go.Proofs.Try.f79)) n (St.of 65 [(1,.int .i64 x1),(5,.sl 1 x5),(6,.int .i64 x6),(7,.int .i64 x7),(17,.sl 1 x17),(18,.int .i64 x18),(19,.int .i64 x19),(27,.int .i64 x27),(28,.int .i64 x28)] []) H:=by
 intro n
 induction n with
 | zero=>intros; rfl
 | succ n ih=>
  intros x1 x5 x6 x7 x17 x18 x19 x27 x28 H
  simp only [l2,hL0,l4_eq rec k n0 L0 hL0 n (l2 rec k L0 n) (fun x1 x5 x6 x7 x17 x18 x19 x27 x28 H=>ih x1 x5 x6 x7 x17 x18 x19 x27 x28 H),j1_eq rec k n0 L0 hL0,ih,-eq_self]
  kernel_rfl
theorem l0_eq (rec:Rec) (k:Nat):∀ n x1 x5 x17 x18 x19 H,l0 rec k n x1 x5 x17 x18 x19 H=iter (o.at (lbody (sub body [1,1,1,0,1,0]))) (ex PP o rec k (lbody (sub body [1,1,1,0,1,0]))) (kAt PP o rec k body [1,1,1,0,1,0] [] (K0 PP Go.Proofs.Try.f79)) n (St.of 65 [(1,.int .i64 x1),(5,.sl 1 x5),(17,.sl 1 x17),(18,.int .i64 x18),(19,.int .i64 x19)] []) H:=by
 intro n
 induction n with
 | zero=>intros; rfl
 | succ n ih=>
  intros x1 x5 x17 x18 x19 H
  simp only [l0,j1_eq rec k n (l0 rec k n) (fun x1 x5 x17 x18 x19 H=>ih x1 x5 x17 x18 x19 H),l2_eq rec k n (l0 rec k n) (fun x1 x5 x17 x18 x19 H=>ih x1 x5 x17 x18 x19 H),j3_eq rec k,ih,-eq_self]
  kernel_rfl
theorem f_eq (rec:Rec) (k:Nat):∀ a0 a1 H,f rec k a0 a1 H=ex PP o rec k body (St.of 65 [(0,.sl 1 a0),(1,.int .i64 a1)] []) H (K0 PP Go.Proofs.Try.f79):=by
 intros a0 a1 H
 unfold f
 try simp only [l0_eq rec k,-eq_self]
 kernel_rfl
theorem call (k:Nat):∀ a0 a1 H,callF PP orc (k + 1) impl_NarrowSingles.id [.sl 1 a0,.int .i64 a1] H=f (callF PP orc k) k a0 a1 H:=by
 intros a0 a1 H
 rw [callF_at (fn:=Go.Proofs.Try.f79) (c:=body) Go.Proofs.Try.func79 (by kernel_rfl) (Nat.le_of_ble_eq_true (by kernel_rfl)),f_eq]
 kernel_rfl
end impl_NarrowSingles
end Go.Proofs.Ytchliocobgkmbaa.Rp
