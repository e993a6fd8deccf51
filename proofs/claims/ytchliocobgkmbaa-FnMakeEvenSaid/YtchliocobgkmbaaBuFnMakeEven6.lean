/- Texts for the row of the law FnMakeEven, part 6: the plain machine, the program's functions on it, what they come to. No conditions. -/
import Derived.Test.YtchliocobgkmbaaAb
import Derived.Test.YtchliocobgkmbaaOr
set_option linter.unusedVariables false
set_option linter.unusedSimpArgs false
set_option maxRecDepth 100000
namespace Go.Proofs.Ytchliocobgkmbaa.Rp
open Go Go.Proofs.Ytchliocobgkmbaa.Ab
namespace impl_MakeEven
noncomputable def body:Code:=(Go.Proofs.Try.f14).body.getD .skip
abbrev o:=orc impl_MakeEven.id
abbrev TL0:=Int→Int→Int→Sl→Sl→Int→Sl→Sl→Hp→An
abbrev PhL0 (rec:Rec) (k n0:Nat) (L0:TL0):Prop:=∀ x5 x6 y2_0 y2_1 y2_2 y4_0 y4_1 y4_2 H,L0 x5 x6 y2_0 y2_1 y2_2 y4_0 y4_1 y4_2 H=iter (o.at (lbody (sub body [1,1,1,1,0,1,0]))) (ex PP o rec k (lbody (sub body [1,1,1,1,0,1,0]))) (kAt PP o rec k body [1,1,1,1,0,1,0] [] (K0 PP Go.Proofs.Try.f14)) n0 (St.of 54 [(2,.lp 2 0),(4,.lp 4 0),(5,.int .i64 x5),(6,.int .i64 x6)] [(2,[.int .i64 y2_0,.sl 1 y2_1,.sl 3 y2_2]),(4,[.int .i64 y4_0,.sl 1 y4_1,.sl 3 y4_2])]) H
noncomputable def j2 (rec:Rec) (k:Nat) (y2_0:Int) (y2_1:Sl) (y2_2:Sl) (y4_0:Int) (y4_1:Sl) (y4_2:Sl) (H:Hp):An:=some (.tup [.agg [.int .i64 y4_0,.sl 1 y4_1,.sl 3 y4_2],.bool true],H)
noncomputable def j3 (rec:Rec) (k:Nat) (L0:TL0) (x5:Int) (x6:Int) (y2_0:Int) (y2_1:Sl) (y2_2:Sl) (y4_0:Int) (y4_1:Sl) (y4_2:Sl) (H:Hp):An:=L0 x5 (IntKind.i64.wrap (x6 + 1)) y2_0 y2_1 y2_2 y4_0 y4_1 y4_2 H
noncomputable def j4 (rec:Rec) (k:Nat) (L0:TL0) (x5:Int) (x6:Int) (y2_0:Int) (y2_1:Sl) (y2_2:Sl) (y4_0:Int) (y4_1:Sl) (y4_2:Sl) (H:Hp):An:=(rec impl_without.id [.agg [.int .i64 y4_0,.sl 1 y4_1,.sl 3 y4_2],.sl 1 (Sl.mk false H.length 0 2)] (H ++ [some (Blk.mk false [.int .i64 x6,.int .i64 (IntKind.i64.wrap ((IntKind.i64.wrap (x5 - 1)) - x6))])])).bind fun r9=>bif r9.1.isAgg 3 then ((r9.1.cel 0).toI .i64).bind fun n10=>((r9.1.cel 1).toS 1).bind fun s11=>((r9.1.cel 2).toS 3).bind fun s12=>(rec impl_onlyOne.id [.agg [.int .i64 n10,.sl 1 s11,.sl 3 s12]] r9.2).bind fun r13=>r13.1.toB.bind fun b14=>bif b14 then j3 rec k L0 x5 x6 y2_0 y2_1 y2_2 n10 s11 s12 r13.2 else j3 rec k L0 x5 x6 y2_0 y2_1 y2_2 y4_0 y4_1 y4_2 r13.2 else none
noncomputable def j1 (rec:Rec) (k:Nat) (L0:TL0) (x5:Int) (x6:Int) (x41:Bool) (y2_0:Int) (y2_1:Sl) (y2_2:Sl) (y4_0:Int) (y4_1:Sl) (y4_2:Sl) (H:Hp):An:=bif x41 then j3 rec k L0 x5 x6 y2_0 y2_1 y2_2 y4_0 y4_1 y4_2 H else j4 rec k L0 x5 x6 y2_0 y2_1 y2_2 y4_0 y4_1 y4_2 H
noncomputable def l0 (rec:Rec) (k:Nat):Nat→Int→Int→Int→Sl→Sl→Int→Sl→Sl→Hp→An
 | 0,_,_,_,_,_,_,_,_,_=>none
 | n + 1,x5,x6,y2_0,y2_1,y2_2,y4_0,y4_1,y4_2,H=>bif decide (x6 ≤ (IntKind.i64.wrap ((IntKind.i64.wrap (x5 - 1)) - x6))) then bif decide (0 ≤ (x6:Int)) && decide ((x6:Int) < y4_1.len) then (ldI .i64 H y4_1.blk (y4_1.off + (x6:Int).toNat * 1)).bind fun n7=>bif n7 == 0 then bif decide (0 ≤ (IntKind.i64.wrap ((IntKind.i64.wrap (x5 - 1)) - x6):Int)) && decide ((IntKind.i64.wrap ((IntKind.i64.wrap (x5 - 1)) - x6):Int) < y4_1.len) then (ldI .i64 H y4_1.blk (y4_1.off + (IntKind.i64.wrap ((IntKind.i64.wrap (x5 - 1)) - x6):Int).toNat * 1)).bind fun n8=>j1 rec k (l0 rec k n) x5 x6 (n8 == 0) y2_0 y2_1 y2_2 y4_0 y4_1 y4_2 H else none else j1 rec k (l0 rec k n) x5 x6 false y2_0 y2_1 y2_2 y4_0 y4_1 y4_2 H else none else j2 rec k y2_0 y2_1 y2_2 y4_0 y4_1 y4_2 H
noncomputable def f (rec:Rec) (k:Nat) (a0_0:Int) (a0_1:Sl) (a0_2:Sl) (H:Hp):An:=(rec impl_onlyOne.id [.agg [.int .i64 a0_0,.sl 1 a0_1,.sl 3 a0_2]] H).bind fun r1=>r1.1.toB.bind fun b2=>bif !b2 then some (.tup [.agg [.int .i64 0,.sl 1 Sl.none,.sl 3 Sl.none],.bool false],r1.2) else (rec impl_copyPuzzle.id [.agg [.int .i64 a0_0,.sl 1 a0_1,.sl 3 a0_2]] r1.2).bind fun r3=>bif r3.1.isAgg 3 then ((r3.1.cel 0).toI .i64).bind fun n4=>((r3.1.cel 1).toS 1).bind fun s5=>((r3.1.cel 2).toS 3).bind fun s6=>l0 rec k k (s5.len:Int) 0 0 Sl.none Sl.none n4 s5 s6 r3.2 else none
theorem j2_eq (rec:Rec) (k:Nat):∀ y2_0 y2_1 y2_2 y4_0 y4_1 y4_2 H,j2 rec k y2_0 y2_1 y2_2 y4_0 y4_1 y4_2 H=ex PP o rec k (sub body [1,1,1,1,1]) (St.of 54 [(2,.lp 2 0),(4,.lp 4 0)] [(2,[.int .i64 y2_0,.sl 1 y2_1,.sl 3 y2_2]),(4,[.int .i64 y4_0,.sl 1 y4_1,.sl 3 y4_2])]) H (kAt PP o rec k body [1,1,1,1,1] [] (K0 PP Go.Proofs.Try.f14)):=by
 intros y2_0 y2_1 y2_2 y4_0 y4_1 y4_2 H
 simp only [j2,-eq_self]
 kernel_rfl
theorem j3_eq (rec:Rec) (k:Nat) (n0:Nat) (L0:TL0) (hL0:PhL0 rec k n0 L0):∀ x5 x6 y2_0 y2_1 y2_2 y4_0 y4_1 y4_2 H,j3 rec k L0 x5 x6 y2_0 y2_1 y2_2 y4_0 y4_1 y4_2 H=ex PP o rec k (sub body [1,1,1,1,0,1,0,0,1,1]) (St.of 54 [(2,.lp 2 0),(4,.lp 4 0),(5,.int .i64 x5),(6,.int .i64 x6)] [(2,[.int .i64 y2_0,.sl 1 y2_1,.sl 3 y2_2]),(4,[.int .i64 y4_0,.sl 1 y4_1,.sl 3 y4_2])]) H (kAt PP o rec k body [1,1,1,1,0,1,0,0,1,1] [n0] (K0 PP Go.Proofs.Try.f14)):=by
 intros x5 x6 y2_0 y2_1 y2_2 y4_0 y4_1 y4_2 H
 simp only [j3,hL0,-eq_self]
 kernel_rfl
theorem j4_eq (rec:Rec) (k:Nat) (n0:Nat) (L0:TL0) (hL0:PhL0 rec k n0 L0):∀ x5 x6 y2_0 y2_1 y2_2 y4_0 y4_1 y4_2 H,j4 rec k L0 x5 x6 y2_0 y2_1 y2_2 y4_0 y4_1 y4_2 H=ex PP o rec k (sub body [1,1,1,1,0,1,0,0,1,0,0,1]) (St.of 54 [(2,.lp 2 0),(4,.lp 4 0),(5,.int .i64 x5),(6,.int .i64 x6)] [(2,[.int .i64 y2_0,.sl 1 y2_1,.sl 3 y2_2]),(4,[.int .i64 y4_0,.sl 1 y4_1,.sl 3 y4_2])]) H (kAt PP o rec k body [1,1,1,1,0,1,0,0,1,0,0,1] [n0] (K0 PP Go.Proofs.Try.f14)):=by
 intros x5 x6 y2_0 y2_1 y2_2 y4_0 y4_1 y4_2 H
 simp only [j4,j3,hL0,-eq_self]
 kernel_rfl
theorem j1_eq (rec:Rec) (k:Nat) (n0:Nat) (L0:TL0) (hL0:PhL0 rec k n0 L0):∀ x5 x6 x41 y2_0 y2_1 y2_2 y4_0 y4_1 y4_2 H,j1 rec k L0 x5 x6 x41 y2_0 y2_1 y2_2 y4_0 y4_1 y4_2 H=ex PP o rec k (sub body [1,1,1,1,0,1,0,0,1,0,0,0,1]) (St.of 54 [(2,.lp 2 0),(4,.lp 4 0),(5,.int .i64 x5),(6,.int .i64 x6),(41,.bool x41)] [(2,[.int .i64 y2_0,.sl 1 y2_1,.sl 3 y2_2]),(4,[.int .i64 y4_0,.sl 1 y4_1,.sl 3 y4_2])]) H (kAt PP o rec k body [1,1,1,1,0,1,0,0,1,0,0,0,1] [n0] (K0 PP Go.Proofs.Try.f14)):=by
 intros x5 x6 x41 y2_0 y2_1 y2_2 y4_0 y4_1 y4_2 H
 simp only [j1,j3,j4,hL0,-eq_self]
 kernel_rfl
theorem l0_eq (rec:Rec) (k:Nat):∀ n x5 x6 y2_0 y2_1 y2_2 y4_0 y4_1 y4_2 H,l0 rec k n x5 x6 y2_0 y2_1 y2_2 y4_0 y4_1 y4_2 H=iter (o.at (lbody (sub body [1,1,1,1,0,1,0]))) (ex PP o rec k (lbody (sub body [1,1,1,1,0,1,0]))) (kAt PP o rec k body [1,1,1,1,0,1,0] [] (K0 PP Go.Proofs.Try.f14)) n (St.of 54 [(2,.lp 2 0),(4,.lp 4 0),(5,.int .i64 x5),(6,.int .i64 x6)] [(2,[.int .i64 y2_0,.sl 1 y2_1,.sl 3 y2_2]),(4,[.int .i64 y4_0,.sl 1 y4_1,.sl 3 y4_2])]) H:=by
 intro n
 induction n with
 | zero=>intros; rfl
 | succ n ih=>
  intros x5 x6 y2_0 y2_1 y2_2 y4_0 y4_1 y4_2 H
  simp only [l0,j1,j2,j3,j4,ih,-eq_self]
  kernel_rfl
theorem f_eq (rec:Rec) (k:Nat):∀ a0_0 a0_1 a0_2 H,f rec k a0_0 a0_1 a0_2 H=ex PP o rec k body (St.of 54 [(0,.agg [.int .i64 a0_0,.sl 1 a0_1,.sl 3 a0_2])] []) H (K0 PP Go.Proofs.Try.f14):=by
 intros a0_0 a0_1 a0_2 H
 simp only [f,l0_eq rec k,-eq_self]
 kernel_rfl
theorem call (k:Nat):∀ a0_0 a0_1 a0_2 H,callF PP orc (k + 1) impl_MakeEven.id [.agg [.int .i64 a0_0,.sl 1 a0_1,.sl 3 a0_2]] H=f (callF PP orc k) k a0_0 a0_1 a0_2 H:=by
 intros a0_0 a0_1 a0_2 H
 rw [callF_at (fn:=Go.Proofs.Try.f14) (c:=body) Go.Proofs.Try.func14 (by kernel_rfl) (Nat.le_of_ble_eq_true (by kernel_rfl)),f_eq]
 kernel_rfl
end impl_MakeEven
namespace spec_MakeEven
noncomputable def body:Code:=(Go.Proofs.Try.f15).body.getD .skip
abbrev o:=orc spec_MakeEven.id
abbrev TL2:=Int→Int→Int→Sl→Sl→Int→Sl→Sl→Hp→An
abbrev PhL2 (rec:Rec) (k n2:Nat) (L2:TL2):Prop:=∀ x5 x6 y2_0 y2_1 y2_2 y4_0 y4_1 y4_2 H,L2 x5 x6 y2_0 y2_1 y2_2 y4_0 y4_1 y4_2 H=iter (o.at (lbody (sub body [1,1,1,1,1,0,1,0]))) (ex PP o rec k (lbody (sub body [1,1,1,1,1,0,1,0]))) (kAt PP o rec k body [1,1,1,1,1,0,1,0] [] (K0 PP Go.Proofs.Try.f15)) n2 (St.of 68 [(2,.lp 2 0),(4,.lp 4 0),(5,.int .i64 x5),(6,.int .i64 x6)] [(2,[.int .i64 y2_0,.sl 1 y2_1,.sl 3 y2_2]),(4,[.int .i64 y4_0,.sl 1 y4_1,.sl 3 y4_2])]) H
noncomputable def j4 (rec:Rec) (k:Nat) (y2_0:Int) (y2_1:Sl) (y2_2:Sl) (y4_0:Int) (y4_1:Sl) (y4_2:Sl) (H:Hp):An:=some (.tup [.agg [.int .i64 y4_0,.sl 1 y4_1,.sl 3 y4_2],.bool true],H)
noncomputable def j5 (rec:Rec) (k:Nat) (L2:TL2) (x5:Int) (x6:Int) (y2_0:Int) (y2_1:Sl) (y2_2:Sl) (y4_0:Int) (y4_1:Sl) (y4_2:Sl) (H:Hp):An:=L2 x5 (IntKind.i64.wrap (x6 + 1)) y2_0 y2_1 y2_2 y4_0 y4_1 y4_2 H
noncomputable def j3 (rec:Rec) (k:Nat) (L2:TL2) (x5:Int) (x6:Int) (x65:Bool) (y2_0:Int) (y2_1:Sl) (y2_2:Sl) (y4_0:Int) (y4_1:Sl) (y4_2:Sl) (y7_0:Int) (y7_1:Sl) (y7_2:Sl) (H:Hp):An:=bif x65 then j5 rec k L2 x5 x6 y2_0 y2_1 y2_2 y7_0 y7_1 y7_2 H else j5 rec k L2 x5 x6 y2_0 y2_1 y2_2 y4_0 y4_1 y4_2 H
noncomputable def l2 (rec:Rec) (k:Nat):Nat→Int→Int→Int→Sl→Sl→Int→Sl→Sl→Hp→An
 | 0,_,_,_,_,_,_,_,_,_=>none
 | n + 1,x5,x6,y2_0,y2_1,y2_2,y4_0,y4_1,y4_2,H=>bif decide (x6 ≤ (IntKind.i64.wrap (x5 - x6))) then (rec spec_l10Without.id [.agg [.int .i64 y4_0,.sl 1 y4_1,.sl 3 y4_2],.int .i64 x6] H).bind fun r13=>bif r13.1.isAgg 3 then ((r13.1.cel 0).toI .i64).bind fun n14=>((r13.1.cel 1).toS 1).bind fun s15=>((r13.1.cel 2).toS 3).bind fun s16=>(rec spec_l10Without.id [.agg [.int .i64 n14,.sl 1 s15,.sl 3 s16],.int .i64 (IntKind.i64.wrap (x5 - x6))] r13.2).bind fun r17=>bif r17.1.isAgg 3 then ((r17.1.cel 0).toI .i64).bind fun n18=>((r17.1.cel 1).toS 1).bind fun s19=>((r17.1.cel 2).toS 3).bind fun s20=>bif decide (0 ≤ (x6:Int)) && decide ((x6:Int) < y4_1.len) then (ldI .i64 r17.2 y4_1.blk (y4_1.off + (x6:Int).toNat * 1)).bind fun n21=>bif decide (0 ≤ (IntKind.i64.wrap (x5 - x6):Int)) && decide ((IntKind.i64.wrap (x5 - x6):Int) < y4_1.len) then (ldI .i64 r17.2 y4_1.blk (y4_1.off + (IntKind.i64.wrap (x5 - x6):Int).toNat * 1)).bind fun n22=>bif decide ((IntKind.i64.wrap (n21 + n22)) > 0) then (rec spec_l10One.id [.agg [.int .i64 n18,.sl 1 s19,.sl 3 s20]] r17.2).bind fun r23=>r23.1.toB.bind fun b24=>j3 rec k (l2 rec k n) x5 x6 b24 y2_0 y2_1 y2_2 y4_0 y4_1 y4_2 n18 s19 s20 r23.2 else j3 rec k (l2 rec k n) x5 x6 false y2_0 y2_1 y2_2 y4_0 y4_1 y4_2 n18 s19 s20 r17.2 else none else none else none else none else j4 rec k y2_0 y2_1 y2_2 y4_0 y4_1 y4_2 H
noncomputable def j1 (rec:Rec) (k:Nat) (y1_0:Int) (y1_1:Sl) (y1_2:Sl) (y2_0:Int) (y2_1:Sl) (y2_2:Sl) (H:Hp):An:=(H.read 1 y1_1).bind fun c10=>(H.appl 1 [] 0 y1_1.len c10).bind fun w9=>bif true && c10.all AV.cell then (w9.2.read 3 y1_2).bind fun c12=>(w9.2.appl 3 [] 0 y1_2.len c12).bind fun w11=>bif true && c12.all AV.cell then l2 rec k k (IntKind.i64.wrap ((w9.1.len:Int) - 1)) 0 y2_0 y2_1 y2_2 y1_0 w9.1 w11.1 w11.2 else none else none
noncomputable def j0 (rec:Rec) (k:Nat) (x17:Bool) (y1_0:Int) (y1_1:Sl) (y1_2:Sl) (y2_0:Int) (y2_1:Sl) (y2_2:Sl) (H:Hp):An:=bif x17 then some (.tup [.agg [.int .i64 0,.sl 1 Sl.none,.sl 3 Sl.none],.bool false],H) else j1 rec k y1_0 y1_1 y1_2 y2_0 y2_1 y2_2 H
noncomputable def f (rec:Rec) (k:Nat) (a0_0:Int) (a0_1:Sl) (a0_2:Sl) (H:Hp):An:=(rec spec_l1OwnPuzzle.id [.agg [.int .i64 a0_0,.sl 1 a0_1,.sl 3 a0_2]] H).bind fun r1=>bif r1.1.isAgg 3 then ((r1.1.cel 0).toI .i64).bind fun n2=>((r1.1.cel 1).toS 1).bind fun s3=>((r1.1.cel 2).toS 3).bind fun s4=>(rec spec_PuzzleValid.id [.agg [.int .i64 n2,.sl 1 s3,.sl 3 s4]] r1.2).bind fun r5=>r5.1.toB.bind fun b6=>bif !b6 then j0 rec k true n2 s3 s4 0 Sl.none Sl.none r5.2 else (rec spec_l10One.id [.agg [.int .i64 n2,.sl 1 s3,.sl 3 s4]] r5.2).bind fun r7=>r7.1.toB.bind fun b8=>j0 rec k (!b8) n2 s3 s4 0 Sl.none Sl.none r7.2 else none
theorem j4_eq (rec:Rec) (k:Nat):∀ y2_0 y2_1 y2_2 y4_0 y4_1 y4_2 H,j4 rec k y2_0 y2_1 y2_2 y4_0 y4_1 y4_2 H=ex PP o rec k (sub body [1,1,1,1,1,1]) (St.of 68 [(2,.lp 2 0),(4,.lp 4 0)] [(2,[.int .i64 y2_0,.sl 1 y2_1,.sl 3 y2_2]),(4,[.int .i64 y4_0,.sl 1 y4_1,.sl 3 y4_2])]) H (kAt PP o rec k body [1,1,1,1,1,1] [] (K0 PP Go.Proofs.Try.f15)):=by
 intros y2_0 y2_1 y2_2 y4_0 y4_1 y4_2 H
 simp only [j4,-eq_self]
 kernel_rfl
theorem j5_eq (rec:Rec) (k:Nat) (n2:Nat) (L2:TL2) (hL2:PhL2 rec k n2 L2):∀ x5 x6 y2_0 y2_1 y2_2 y4_0 y4_1 y4_2 H,j5 rec k L2 x5 x6 y2_0 y2_1 y2_2 y4_0 y4_1 y4_2 H=ex PP o rec k (sub body [1,1,1,1,1,0,1,0,0,1,1]) (St.of 68 [(2,.lp 2 0),(4,.lp 4 0),(5,.int .i64 x5),(6,.int .i64 x6)] [(2,[.int .i64 y2_0,.sl 1 y2_1,.sl 3 y2_2]),(4,[.int .i64 y4_0,.sl 1 y4_1,.sl 3 y4_2])]) H (kAt PP o rec k body [1,1,1,1,1,0,1,0,0,1,1] [n2] (K0 PP Go.Proofs.Try.f15)):=by
 intros x5 x6 y2_0 y2_1 y2_2 y4_0 y4_1 y4_2 H
 simp only [j5,hL2,-eq_self]
 kernel_rfl
theorem j3_eq (rec:Rec) (k:Nat) (n2:Nat) (L2:TL2) (hL2:PhL2 rec k n2 L2):∀ x5 x6 x65 y2_0 y2_1 y2_2 y4_0 y4_1 y4_2 y7_0 y7_1 y7_2 H,j3 rec k L2 x5 x6 x65 y2_0 y2_1 y2_2 y4_0 y4_1 y4_2 y7_0 y7_1 y7_2 H=ex PP o rec k (sub body [1,1,1,1,1,0,1,0,0,1,0,0,1,1]) (St.of 68 [(2,.lp 2 0),(4,.lp 4 0),(5,.int .i64 x5),(6,.int .i64 x6),(7,.lp 7 0),(65,.bool x65)] [(2,[.int .i64 y2_0,.sl 1 y2_1,.sl 3 y2_2]),(4,[.int .i64 y4_0,.sl 1 y4_1,.sl 3 y4_2]),(7,[.int .i64 y7_0,.sl 1 y7_1,.sl 3 y7_2])]) H (kAt PP o rec k body [1,1,1,1,1,0,1,0,0,1,0,0,1,1] [n2] (K0 PP Go.Proofs.Try.f15)):=by
 intros x5 x6 x65 y2_0 y2_1 y2_2 y4_0 y4_1 y4_2 y7_0 y7_1 y7_2 H
 simp only [j3,j5,hL2,-eq_self]
 kernel_rfl
theorem l2_eq (rec:Rec) (k:Nat):∀ n x5 x6 y2_0 y2_1 y2_2 y4_0 y4_1 y4_2 H,l2 rec k n x5 x6 y2_0 y2_1 y2_2 y4_0 y4_1 y4_2 H=iter (o.at (lbody (sub body [1,1,1,1,1,0,1,0]))) (ex PP o rec k (lbody (sub body [1,1,1,1,1,0,1,0]))) (kAt PP o rec k body [1,1,1,1,1,0,1,0] [] (K0 PP Go.Proofs.Try.f15)) n (St.of 68 [(2,.lp 2 0),(4,.lp 4 0),(5,.int .i64 x5),(6,.int .i64 x6)] [(2,[.int .i64 y2_0,.sl 1 y2_1,.sl 3 y2_2]),(4,[.int .i64 y4_0,.sl 1 y4_1,.sl 3 y4_2])]) H:=by
 intro n
 induction n with
 | zero=>intros; rfl
 | succ n ih=>
  intros x5 x6 y2_0 y2_1 y2_2 y4_0 y4_1 y4_2 H
  simp only [l2,j3,j4,j5,ih,-eq_self]
  kernel_rfl
theorem j1_eq (rec:Rec) (k:Nat):∀ y1_0 y1_1 y1_2 y2_0 y2_1 y2_2 H,j1 rec k y1_0 y1_1 y1_2 y2_0 y2_1 y2_2 H=ex PP o rec k (sub body [1,1,1]) (St.of 68 [(1,.lp 1 0),(2,.lp 2 0)] [(1,[.int .i64 y1_0,.sl 1 y1_1,.sl 3 y1_2]),(2,[.int .i64 y2_0,.sl 1 y2_1,.sl 3 y2_2])]) H (kAt PP o rec k body [1,1,1] [] (K0 PP Go.Proofs.Try.f15)):=by
 intros y1_0 y1_1 y1_2 y2_0 y2_1 y2_2 H
 simp only [j1,l2_eq rec k,-eq_self]
 kernel_rfl
theorem j0_eq (rec:Rec) (k:Nat):∀ x17 y1_0 y1_1 y1_2 y2_0 y2_1 y2_2 H,j0 rec k x17 y1_0 y1_1 y1_2 y2_0 y2_1 y2_2 H=ex PP o rec k (sub body [1,1,0,1]) (St.of 68 [(1,.lp 1 0),(2,.lp 2 0),(17,.bool x17)] [(1,[.int .i64 y1_0,.sl 1 y1_1,.sl 3 y1_2]),(2,[.int .i64 y2_0,.sl 1 y2_1,.sl 3 y2_2])]) H (kAt PP o rec k body [1,1,0,1] [] (K0 PP Go.Proofs.Try.f15)):=by
 intros x17 y1_0 y1_1 y1_2 y2_0 y2_1 y2_2 H
 simp only [j0,j1,l2_eq rec k,-eq_self]
 kernel_rfl
theorem f_eq (rec:Rec) (k:Nat):∀ a0_0 a0_1 a0_2 H,f rec k a0_0 a0_1 a0_2 H=ex PP o rec k body (St.of 68 [(0,.agg [.int .i64 a0_0,.sl 1 a0_1,.sl 3 a0_2])] []) H (K0 PP Go.Proofs.Try.f15):=by
 intros a0_0 a0_1 a0_2 H
 simp only [f,j0,j1,l2_eq rec k,-eq_self]
 kernel_rfl
theorem call (k:Nat):∀ a0_0 a0_1 a0_2 H,callF PP orc (k + 1) spec_MakeEven.id [.agg [.int .i64 a0_0,.sl 1 a0_1,.sl 3 a0_2]] H=f (callF PP orc k) k a0_0 a0_1 a0_2 H:=by
 intros a0_0 a0_1 a0_2 H
 rw [callF_at (fn:=Go.Proofs.Try.f15) (c:=body) Go.Proofs.Try.func15 (by kernel_rfl) (Nat.le_of_ble_eq_true (by kernel_rfl)),f_eq]
 kernel_rfl
end spec_MakeEven
namespace spec_DrawMakeEven
noncomputable def body:Code:=(Go.Proofs.Try.f13).body.getD .skip
abbrev o:=orc spec_DrawMakeEven.id
noncomputable def j1 (rec:Rec) (k:Nat) (y2_0:Int) (y2_1:Sl) (y2_2:Sl) (y4_0:Int) (y4_1:Sl) (y4_2:Sl) (H:Hp):An:=some (.agg [.int .i64 y4_0,.sl 1 y4_1,.sl 3 y4_2],H)
noncomputable def j0 (rec:Rec) (k:Nat) (x5:Sl) (x21:Bool) (y2_0:Int) (y2_1:Sl) (y2_2:Sl) (y4_0:Int) (y4_1:Sl) (y4_2:Sl) (H:Hp):An:=bif x21 then j1 rec k y2_0 y2_1 y2_2 y4_0 x5 y4_2 H else j1 rec k y2_0 y2_1 y2_2 y4_0 y4_1 y4_2 H
noncomputable def f (rec:Rec) (k:Nat) (a0:Sl) (H:Hp):An:=(rec spec_l20Open.id [.sl 1 a0] H).bind fun r1=>r1.1.toP.bind fun p2=>(rec spec_l20Puzzle.id [.ptr p2.1 p2.2,.int .i64 12] r1.2).bind fun r3=>bif r3.1.isAgg 3 then ((r3.1.cel 0).toI .i64).bind fun n4=>((r3.1.cel 1).toS 1).bind fun s5=>((r3.1.cel 2).toS 3).bind fun s6=>(rec spec_SolveFirst.id [.agg [.int .i64 n4,.sl 1 s5,.sl 3 s6]] r3.2).bind fun r7=>bif r7.1.isTup 2 then ((r7.1.nth 0).toS 1).bind fun s8=>(r7.1.nth 1).toB.bind fun b9=>bif b9 then (rec spec_l20Rd_pick.id [.ptr p2.1 p2.2,.int .i64 2] r7.2).bind fun r10=>(r10.1.toI .i64).bind fun n11=>j0 rec k s8 (n11 == 0) 0 Sl.none Sl.none n4 s5 s6 r10.2 else j0 rec k s8 false 0 Sl.none Sl.none n4 s5 s6 r7.2 else none else none
theorem j1_eq (rec:Rec) (k:Nat):∀ y2_0 y2_1 y2_2 y4_0 y4_1 y4_2 H,j1 rec k y2_0 y2_1 y2_2 y4_0 y4_1 y4_2 H=ex PP o rec k (sub body [1,1,1,1]) (St.of 25 [(2,.lp 2 0),(4,.lp 4 0)] [(2,[.int .i64 y2_0,.sl 1 y2_1,.sl 3 y2_2]),(4,[.int .i64 y4_0,.sl 1 y4_1,.sl 3 y4_2])]) H (kAt PP o rec k body [1,1,1,1] [] (K0 PP Go.Proofs.Try.f13)):=by
 intros y2_0 y2_1 y2_2 y4_0 y4_1 y4_2 H
 unfold j1
 kernel_rfl
theorem j0_eq (rec:Rec) (k:Nat):∀ x5 x21 y2_0 y2_1 y2_2 y4_0 y4_1 y4_2 H,j0 rec k x5 x21 y2_0 y2_1 y2_2 y4_0 y4_1 y4_2 H=ex PP o rec k (sub body [1,1,1,0,1,1]) (St.of 25 [(2,.lp 2 0),(4,.lp 4 0),(5,.sl 1 x5),(21,.bool x21)] [(2,[.int .i64 y2_0,.sl 1 y2_1,.sl 3 y2_2]),(4,[.int .i64 y4_0,.sl 1 y4_1,.sl 3 y4_2])]) H (kAt PP o rec k body [1,1,1,0,1,1] [] (K0 PP Go.Proofs.Try.f13)):=by
 intros x5 x21 y2_0 y2_1 y2_2 y4_0 y4_1 y4_2 H
 unfold j0
 try simp only [j1_eq rec k,-eq_self]
 kernel_rfl
theorem f_eq (rec:Rec) (k:Nat):∀ a0 H,f rec k a0 H=ex PP o rec k body (St.of 25 [(0,.sl 1 a0)] []) H (K0 PP Go.Proofs.Try.f13):=by
 intros a0 H
 unfold f
 try simp only [j0_eq rec k,-eq_self]
 kernel_rfl
theorem call (k:Nat):∀ a0 H,callF PP orc (k + 1) spec_DrawMakeEven.id [.sl 1 a0] H=f (callF PP orc k) k a0 H:=by
 intros a0 H
 rw [callF_at (fn:=Go.Proofs.Try.f13) (c:=body) Go.Proofs.Try.func13 (by kernel_rfl) (Nat.le_of_ble_eq_true (by kernel_rfl)),f_eq]
 kernel_rfl
end spec_DrawMakeEven
namespace spec_l20Rule
noncomputable def body:Code:=(Go.Proofs.Try.f88).body.getD .skip
abbrev o:=orc spec_l20Rule.id
abbrev TL0:=Nat→Nat→Sl→Int→Int→Sl→Int→Int→Int→Sl→Int→Hp→An
abbrev PhL0 (rec:Rec) (k n0:Nat) (L0:TL0):Prop:=∀ x0b x0o x1 x2 x3 x9 x10 x11 y8_0 y8_1 y8_2 H,L0 x0b x0o x1 x2 x3 x9 x10 x11 y8_0 y8_1 y8_2 H=iter (o.at (lbody (sub body [1,1,1,0,1,0]))) (ex PP o rec k (lbody (sub body [1,1,1,0,1,0]))) (kAt PP o rec k body [1,1,1,0,1,0] [] (K0 PP Go.Proofs.Try.f88)) n0 (St.of 232 [(0,.ptr x0b x0o),(1,.sl 1 x1),(2,.int .i64 x2),(3,.int .i64 x3),(8,.lp 8 0),(9,.sl 1 x9),(10,.int .i64 x10),(11,.int .i64 x11)] [(8,[.int .i64 y8_0,.sl 1 y8_1,.int .i64 y8_2])]) H
noncomputable def j8 (rec:Rec) (k:Nat) (L0:TL0) (L6:Nat→Nat→Sl→Int→Int→Sl→Int→Int→Int→Bool→Int→Int→Sl→Int→Hp→An) (x0b:Nat) (x0o:Nat) (x1:Sl) (x2:Int) (x3:Int) (x9:Sl) (x10:Int) (x11:Int) (x12:Int) (x13:Bool) (x14:Int) (y8_0:Int) (y8_1:Sl) (y8_2:Int) (H:Hp):An:=L6 x0b x0o x1 x2 x3 x9 x10 x11 x12 x13 (IntKind.i64.wrap (x14 + 1)) y8_0 y8_1 y8_2 H
noncomputable def j11 (rec:Rec) (k:Nat) (L0:TL0) (x0b:Nat) (x0o:Nat) (x1:Sl) (x2:Int) (x3:Int) (x9:Sl) (x10:Int) (x11:Int) (y8_0:Int) (y8_1:Sl) (y8_2:Int) (H:Hp):An:=L0 x0b x0o x1 x2 x3 x9 x10 (IntKind.i64.wrap (x11 + 1)) y8_0 y8_1 y8_2 H
noncomputable def j9 (rec:Rec) (k:Nat) (L0:TL0) (x0b:Nat) (x0o:Nat) (x1:Sl) (x2:Int) (x3:Int) (x9:Sl) (x10:Int) (x11:Int) (x12:Int) (x13:Bool) (y8_0:Int) (y8_1:Sl) (y8_2:Int) (H:Hp):An:=bif x13 then (H.app 1 x9 1 [.int .i64 x12]).bind fun w31=>j11 rec k L0 x0b x0o x1 x2 x3 w31.1 x10 x11 y8_0 y8_1 y8_2 w31.2 else j11 rec k L0 x0b x0o x1 x2 x3 x9 x10 x11 y8_0 y8_1 y8_2 H
noncomputable def l6 (rec:Rec) (k:Nat) (L0:TL0):Nat→Nat→Nat→Sl→Int→Int→Sl→Int→Int→Int→Bool→Int→Int→Sl→Int→Hp→An
 | 0,_,_,_,_,_,_,_,_,_,_,_,_,_,_,_=>none
 | n + 1,x0b,x0o,x1,x2,x3,x9,x10,x11,x12,x13,x14,y8_0,y8_1,y8_2,H=>bif decide (x14 < (x9.len:Int)) then bif x13 then bif decide (0 ≤ (x14:Int)) && decide ((x14:Int) < x9.len) then (ldI .i64 H x9.blk (x9.off + (x14:Int).toNat * 1)).bind fun n16=>j8 rec k L0 (l6 rec k L0 n) x0b x0o x1 x2 x3 x9 x10 x11 x12 (n16 != x12) x14 y8_0 y8_1 y8_2 H else none else j8 rec k L0 (l6 rec k L0 n) x0b x0o x1 x2 x3 x9 x10 x11 x12 false x14 y8_0 y8_1 y8_2 H else j9 rec k L0 x0b x0o x1 x2 x3 x9 x10 x11 x12 x13 y8_0 y8_1 y8_2 H
noncomputable def j4 (rec:Rec) (k:Nat) (L0:TL0) (x0b:Nat) (x0o:Nat) (x1:Sl) (x2:Int) (x3:Int) (x9:Sl) (x10:Int) (x11:Int) (x12:Int) (x13:Bool) (y8_0:Int) (y8_1:Sl) (y8_2:Int) (H:Hp):An:=l6 rec k L0 k x0b x0o x1 x2 x3 x9 x10 x11 x12 x13 0 y8_0 y8_1 y8_2 H
noncomputable def j2 (rec:Rec) (k:Nat) (L0:TL0) (x0b:Nat) (x0o:Nat) (x1:Sl) (x2:Int) (x3:Int) (x9:Sl) (x10:Int) (x11:Int) (y8_0:Int) (y8_1:Sl) (y8_2:Int) (H:Hp):An:=(rec spec_l20Rd_pick.id [.ptr x0b x0o,.int .i64 (x9.len:Int)] H).bind fun r5=>(r5.1.toI .i64).bind fun n6=>bif decide (0 ≤ (n6:Int)) && decide ((n6:Int) < x9.len) then (ldI .i64 r5.2 x9.blk (x9.off + (n6:Int).toNat * 1)).bind fun n7=>(rec spec_l20Rd_pick.id [.ptr x0b x0o,.int .i64 4] r5.2).bind fun r8=>(r8.1.toI .i64).bind fun n9=>bif stableB r5.2 r8.2 x9.blk (x9.off + (n6:Int).toNat * 1) 1 && true then bif decide (0 ≤ (n9:Int)) && decide ((n9:Int) < ((4:Nat):Int)) then (([.int .i64 1,.int .i64 (-1),.int .i64 x2,.int .i64 (IntKind.i64.wrap (0 - x2))]:List AV)[(n9:Int).toNat * 1]?).bind fun v10=>bif v10.cell then (v10.toI .i64).bind fun n11=>bif decide ((IntKind.i64.wrap (n7 + n11)) ≥ 0) then j4 rec k L0 x0b x0o x1 x2 x3 x9 x10 x11 (IntKind.i64.wrap (n7 + n11)) (decide ((IntKind.i64.wrap (n7 + n11)) < (IntKind.i64.wrap (x2 * x2)))) y8_0 y8_1 y8_2 r8.2 else j4 rec k L0 x0b x0o x1 x2 x3 x9 x10 x11 (IntKind.i64.wrap (n7 + n11)) false y8_0 y8_1 y8_2 r8.2 else none else none else none else none
noncomputable def j12 (rec:Rec) (k:Nat) (y8_0:Int) (y8_1:Sl) (y8_2:Int) (y18_0:Int) (y18_1:Sl) (y18_2:Int) (H:Hp):An:=some (.agg [.int .i64 y18_0,.sl 1 y18_1,.int .i64 y18_2],H)
noncomputable def j10 (rec:Rec) (k:Nat) (x0b:Nat) (x0o:Nat) (x2:Int) (x3:Int) (y8_0:Int) (y8_1:Sl) (y8_2:Int) (y18_0:Int) (y18_1:Sl) (y18_2:Int) (H:Hp):An:=(rec spec_l20Rd_odd.id [.ptr x0b x0o,.int .i64 x3] H).bind fun r32=>r32.1.toB.bind fun b33=>bif b33 then (rec spec_l20Rd_pick.id [.ptr x0b x0o,.int .i64 4] r32.2).bind fun r34=>(r34.1.toI .i64).bind fun n35=>bif n35 == 0 then (rec spec_l20Rd_pick.id [.ptr x0b x0o,.int .i64 2] (r34.2 ++ [some (Blk.mk false [.int .i64 0,.int .i64 6])])).bind fun r36=>(r36.1.toI .i64).bind fun n37=>bif decide (0 ≤ (n37:Int)) && decide ((n37:Int) < (Sl.mk false r34.2.length 0 2).len) then (ldI .i64 r36.2 ((Sl.mk false r34.2.length 0 2).blk) ((Sl.mk false r34.2.length 0 2).off + (n37:Int).toNat * 1)).bind fun n38=>j12 rec k y8_0 y8_1 y8_2 n38 y18_1 y18_2 r36.2 else none else bif n35 == 1 then bif decide (0 ≤ (0:Int)) && decide ((0:Int) < y18_1.len) then (ldI .i64 r34.2 y18_1.blk (y18_1.off + (0:Int).toNat * 1)).bind fun n39=>(r34.2.read 1 y18_1).bind fun c41=>(r34.2.appl 1 [] 0 y18_1.len c41).bind fun w40=>bif true && c41.all AV.cell then bif stableB r34.2 w40.2 y18_1.blk (y18_1.off + (0:Int).toNat * 1) 1 && true then (w40.2.app 1 w40.1 1 [.int .i64 n39]).bind fun w42=>j12 rec k y8_0 y8_1 y8_2 y18_0 w42.1 y18_2 w42.2 else none else none else none else bif n35 == 2 then j12 rec k y8_0 y8_1 y8_2 y18_0 (Sl.mk false r34.2.length 0 2) y18_2 (r34.2 ++ [some (Blk.mk false [.int .i64 (IntKind.i64.wrap (x2 * x2)),.int .i64 0])]) else (rec spec_l20Rd_pick.id [.ptr x0b x0o,.int .i64 2] (r34.2 ++ [some (Blk.mk false [.int .i64 (-1),.int .i64 257])])).bind fun r43=>(r43.1.toI .i64).bind fun n44=>bif decide (0 ≤ (n44:Int)) && decide ((n44:Int) < (Sl.mk false r34.2.length 0 2).len) then (ldI .i64 r43.2 ((Sl.mk false r34.2.length 0 2).blk) ((Sl.mk false r34.2.length 0 2).off + (n44:Int).toNat * 1)).bind fun n45=>j12 rec k y8_0 y8_1 y8_2 y18_0 y18_1 n45 r43.2 else none else j12 rec k y8_0 y8_1 y8_2 y18_0 y18_1 y18_2 r32.2
noncomputable def j7 (rec:Rec) (k:Nat) (x0b:Nat) (x0o:Nat) (x1:Sl) (x2:Int) (x3:Int) (x9:Sl) (x15:Int) (x16:Int) (y8_0:Int) (y8_1:Sl) (y8_2:Int) (H:Hp):An:=(rec spec_l20Rd_pick.id [.ptr x0b x0o,.int .i64 5] H).bind fun r17=>(r17.1.toI .i64).bind fun n18=>bif n18 == 0 then j10 rec k x0b x0o x2 x3 y8_0 y8_1 y8_2 3 x9 x16 r17.2 else bif n18 == 1 then bif decide ((x9.len:Int) > 1) then bif decide (0 ≤ (0:Int)) && decide ((0:Int) < x9.len) then (ldI .i64 r17.2 x9.blk (x9.off + (0:Int).toNat * 1)).bind fun n19=>bif decide (0 ≤ (1:Int)) && decide ((1:Int) < x9.len) then (ldI .i64 r17.2 x9.blk (x9.off + (1:Int).toNat * 1)).bind fun n20=>bif decide (0 ≤ (0:Int)) && decide ((0:Int) < x9.len) then (ldI .i64 (r17.2 ++ [some (Blk.mk false [.int .i64 n19,.int .i64 n20])]) x9.blk (x9.off + (0:Int).toNat * 1)).bind fun n21=>bif decide (0 ≤ (n21:Int)) && decide ((n21:Int) < x1.len) then (ldI .i64 (r17.2 ++ [some (Blk.mk false [.int .i64 n19,.int .i64 n20])]) x1.blk (x1.off + (n21:Int).toNat * 1)).bind fun n22=>bif decide (0 ≤ (1:Int)) && decide ((1:Int) < x9.len) then (ldI .i64 (r17.2 ++ [some (Blk.mk false [.int .i64 n19,.int .i64 n20])]) x9.blk (x9.off + (1:Int).toNat * 1)).bind fun n23=>bif decide (0 ≤ (n23:Int)) && decide ((n23:Int) < x1.len) then (ldI .i64 (r17.2 ++ [some (Blk.mk false [.int .i64 n19,.int .i64 n20])]) x1.blk (x1.off + (n23:Int).toNat * 1)).bind fun n24=>bif decide (n22 > n24) then bif decide (0 ≤ (1:Int)) && decide ((1:Int) < x9.len) then (ldI .i64 (r17.2 ++ [some (Blk.mk false [.int .i64 n19,.int .i64 n20])]) x9.blk (x9.off + (1:Int).toNat * 1)).bind fun n25=>bif decide (0 ≤ (0:Int)) && decide ((0:Int) < x9.len) then (ldI .i64 (r17.2 ++ [some (Blk.mk false [.int .i64 n19,.int .i64 n20])]) x9.blk (x9.off + (0:Int).toNat * 1)).bind fun n26=>j10 rec k x0b x0o x2 x3 y8_0 y8_1 y8_2 4 (Sl.mk false ((r17.2 ++ [some (Blk.mk false [.int .i64 n19,.int .i64 n20])]).length) 0 2) 0 (r17.2 ++ [some (Blk.mk false [.int .i64 n19,.int .i64 n20])] ++ [some (Blk.mk false [.int .i64 n25,.int .i64 n26])]) else none else none else j10 rec k x0b x0o x2 x3 y8_0 y8_1 y8_2 4 (Sl.mk false r17.2.length 0 2) 0 (r17.2 ++ [some (Blk.mk false [.int .i64 n19,.int .i64 n20])]) else none else none else none else none else none else none else j10 rec k x0b x0o x2 x3 y8_0 y8_1 y8_2 2 x9 (mx 1 x15) r17.2 else bif n18 == 2 then bif decide ((x9.len:Int) > 1) then bif decide (0 ≤ (0:Int)) && decide ((0:Int) < x9.len) then (ldI .i64 r17.2 x9.blk (x9.off + (0:Int).toNat * 1)).bind fun n27=>bif decide (0 ≤ (n27:Int)) && decide ((n27:Int) < x1.len) then (ldI .i64 r17.2 x1.blk (x1.off + (n27:Int).toNat * 1)).bind fun n28=>bif decide (0 ≤ (1:Int)) && decide ((1:Int) < x9.len) then (ldI .i64 r17.2 x9.blk (x9.off + (1:Int).toNat * 1)).bind fun n29=>bif decide (0 ≤ (n29:Int)) && decide ((n29:Int) < x1.len) then (ldI .i64 r17.2 x1.blk (x1.off + (n29:Int).toNat * 1)).bind fun n30=>if (0 ≤ (0:Int)∧(0:Int) ≤ 2∧(2:Int) ≤ x9.len∧(2:Int)=2)∧0 < 1∧true=true then j10 rec k x0b x0o x2 x3 y8_0 y8_1 y8_2 5 (Sl.mk x9.nil x9.blk (x9.off + (0:Int).toNat * 1) ((2:Int) - 0).toNat) (mn (IntKind.i64.wrap (x2 - 1)) (mx (IntKind.i64.wrap (n28 - n30)) (IntKind.i64.wrap (0 - (IntKind.i64.wrap (n28 - n30)))))) r17.2 else none else none else none else none else none else j10 rec k x0b x0o x2 x3 y8_0 y8_1 y8_2 2 x9 (mx 1 x15) r17.2 else bif n18 == 3 then bif decide ((x9.len:Int) > 1) then if (0 ≤ (0:Int)∧(0:Int) ≤ 2∧(2:Int) ≤ x9.len∧(2:Int)=2)∧0 < 1∧true=true then j10 rec k x0b x0o x2 x3 y8_0 y8_1 y8_2 1 (Sl.mk x9.nil x9.blk (x9.off + (0:Int).toNat * 1) ((2:Int) - 0).toNat) 0 r17.2 else none else j10 rec k x0b x0o x2 x3 y8_0 y8_1 y8_2 2 x9 (mx 1 x15) r17.2 else j10 rec k x0b x0o x2 x3 y8_0 y8_1 y8_2 2 x9 (mx 1 x15) r17.2
noncomputable def l5 (rec:Rec) (k:Nat):Nat→Nat→Nat→Sl→Int→Int→Sl→Int→Int→Int→Int→Sl→Int→Hp→An
 | 0,_,_,_,_,_,_,_,_,_,_,_,_,_=>none
 | n + 1,x0b,x0o,x1,x2,x3,x9,x15,x16,x17,y8_0,y8_1,y8_2,H=>bif decide (x17 < (x9.len:Int)) then bif decide (0 ≤ (x17:Int)) && decide ((x17:Int) < x9.len) then (ldI .i64 H x9.blk (x9.off + (x17:Int).toNat * 1)).bind fun n12=>bif decide (0 ≤ (n12:Int)) && decide ((n12:Int) < x1.len) then (ldI .i64 H x1.blk (x1.off + (n12:Int).toNat * 1)).bind fun n13=>bif decide (0 ≤ (x17:Int)) && decide ((x17:Int) < x9.len) then (ldI .i64 H x9.blk (x9.off + (x17:Int).toNat * 1)).bind fun n14=>bif decide (0 ≤ (n14:Int)) && decide ((n14:Int) < x1.len) then (ldI .i64 H x1.blk (x1.off + (n14:Int).toNat * 1)).bind fun n15=>(l5 rec k n) x0b x0o x1 x2 x3 x9 (IntKind.i64.wrap (x15 + n13)) (IntKind.i64.wrap (x16 * (mx 1 n15))) (IntKind.i64.wrap (x17 + 1)) y8_0 y8_1 y8_2 H else none else none else none else none else j7 rec k x0b x0o x1 x2 x3 x9 x15 x16 y8_0 y8_1 y8_2 H
noncomputable def j3 (rec:Rec) (k:Nat) (x0b:Nat) (x0o:Nat) (x1:Sl) (x2:Int) (x3:Int) (x9:Sl) (y8_0:Int) (y8_1:Sl) (y8_2:Int) (H:Hp):An:=l5 rec k k x0b x0o x1 x2 x3 x9 0 1 0 y8_0 y8_1 y8_2 H
noncomputable def j1 (rec:Rec) (k:Nat) (L0:TL0) (x0b:Nat) (x0o:Nat) (x1:Sl) (x2:Int) (x3:Int) (x9:Sl) (x10:Int) (x11:Int) (x38:Bool) (y8_0:Int) (y8_1:Sl) (y8_2:Int) (H:Hp):An:=bif x38 then j2 rec k L0 x0b x0o x1 x2 x3 x9 x10 x11 y8_0 y8_1 y8_2 H else j3 rec k x0b x0o x1 x2 x3 x9 y8_0 y8_1 y8_2 H
noncomputable def l0 (rec:Rec) (k:Nat):Nat→Nat→Nat→Sl→Int→Int→Sl→Int→Int→Int→Sl→Int→Hp→An
 | 0,_,_,_,_,_,_,_,_,_,_,_,_=>none
 | n + 1,x0b,x0o,x1,x2,x3,x9,x10,x11,y8_0,y8_1,y8_2,H=>bif decide (x11 < (IntKind.i64.wrap (x10 * 4))) then j1 rec k (l0 rec k n) x0b x0o x1 x2 x3 x9 x10 x11 (decide ((x9.len:Int) < x10)) y8_0 y8_1 y8_2 H else j1 rec k (l0 rec k n) x0b x0o x1 x2 x3 x9 x10 x11 false y8_0 y8_1 y8_2 H
noncomputable def f (rec:Rec) (k:Nat) (a0b:Nat) (a0o:Nat) (a1:Sl) (a2:Int) (a3:Int) (H:Hp):An:=(rec spec_l20Rd_pick.id [.ptr a0b a0o,.int .i64 (IntKind.i64.wrap (a2 * a2))] H).bind fun r1=>(r1.1.toI .i64).bind fun n2=>(rec spec_l20Rd_pick.id [.ptr a0b a0o,.int .i64 3] (r1.2 ++ [some (Blk.mk false [.int .i64 n2])])).bind fun r3=>(r3.1.toI .i64).bind fun n4=>l0 rec k k a0b a0o a1 a2 a3 (Sl.mk false r1.2.length 0 1) (IntKind.i64.wrap (2 + n4)) 0 0 Sl.none 0 r3.2
theorem j8_eq (rec:Rec) (k:Nat) (n0:Nat) (L0:TL0) (hL0:PhL0 rec k n0 L0) (n6:Nat) (L6:Nat→Nat→Sl→Int→Int→Sl→Int→Int→Int→Bool→Int→Int→Sl→Int→Hp→An) (hL6:∀ x0b x0o x1 x2 x3 x9 x10 x11 x12 x13 x14 y8_0 y8_1 y8_2 H,L6 x0b x0o x1 x2 x3 x9 x10 x11 x12 x13 x14 y8_0 y8_1 y8_2 H=iter (o.at (lbody (sub body [1,1,1,0,1,0,0,1,0,0,1,1,0,1,0]))) (ex PP o rec k (lbody (sub body [1,1,1,0,1,0,0,1,0,0,1,1,0,1,0]))) (kAt PP o rec k body [1,1,1,0,1,0,0,1,0,0,1,1,0,1,0] [n0] (K0 PP Go.Proofs.Try.f88)) n6 (St.of 232 [(0,.ptr x0b x0o),(1,.sl 1 x1),(2,.int .i64 x2),(3,.int .i64 x3),(8,.lp 8 0),(9,.sl 1 x9),(10,.int .i64 x10),(11,.int .i64 x11),(12,.int .i64 x12),(13,.bool x13),(14,.int .i64 x14)] [(8,[.int .i64 y8_0,.sl 1 y8_1,.int .i64 y8_2])]) H):∀ x0b x0o x1 x2 x3 x9 x10 x11 x12 x13 x14 y8_0 y8_1 y8_2 H,j8 rec k L0 L6 x0b x0o x1 x2 x3 x9 x10 x11 x12 x13 x14 y8_0 y8_1 y8_2 H=ex PP o rec k (sub body [1,1,1,0,1,0,0,1,0,0,1,1,0,1,0,0,1,1]) (St.of 232 [(0,.ptr x0b x0o),(1,.sl 1 x1),(2,.int .i64 x2),(3,.int .i64 x3),(8,.lp 8 0),(9,.sl 1 x9),(10,.int .i64 x10),(11,.int .i64 x11),(12,.int .i64 x12),(13,.bool x13),(14,.int .i64 x14)] [(8,[.int .i64 y8_0,.sl 1 y8_1,.int .i64 y8_2])]) H (kAt PP o rec k body [1,1,1,0,1,0,0,1,0,0,1,1,0,1,0,0,1,1] [n0,n6] (K0 PP Go.Proofs.Try.f88)):=by
 intros x0b x0o x1 x2 x3 x9 x10 x11 x12 x13 x14 y8_0 y8_1 y8_2 H
 unfold j8
 try simp only [hL0,hL6,-eq_self]
 kernel_rfl
theorem j11_eq (rec:Rec) (k:Nat) (n0:Nat) (L0:TL0) (hL0:PhL0 rec k n0 L0):∀ x0b x0o x1 x2 x3 x9 x10 x11 y8_0 y8_1 y8_2 H,j11 rec k L0 x0b x0o x1 x2 x3 x9 x10 x11 y8_0 y8_1 y8_2 H=ex PP o rec k (sub body [1,1,1,0,1,0,0,1,1]) (St.of 232 [(0,.ptr x0b x0o),(1,.sl 1 x1),(2,.int .i64 x2),(3,.int .i64 x3),(8,.lp 8 0),(9,.sl 1 x9),(10,.int .i64 x10),(11,.int .i64 x11)] [(8,[.int .i64 y8_0,.sl 1 y8_1,.int .i64 y8_2])]) H (kAt PP o rec k body [1,1,1,0,1,0,0,1,1] [n0] (K0 PP Go.Proofs.Try.f88)):=by
 intros x0b x0o x1 x2 x3 x9 x10 x11 y8_0 y8_1 y8_2 H
 unfold j11
 try simp only [hL0,-eq_self]
 kernel_rfl
theorem j9_eq (rec:Rec) (k:Nat) (n0:Nat) (L0:TL0) (hL0:PhL0 rec k n0 L0):∀ x0b x0o x1 x2 x3 x9 x10 x11 x12 x13 y8_0 y8_1 y8_2 H,j9 rec k L0 x0b x0o x1 x2 x3 x9 x10 x11 x12 x13 y8_0 y8_1 y8_2 H=ex PP o rec k (sub body [1,1,1,0,1,0,0,1,0,0,1,1,1]) (St.of 232 [(0,.ptr x0b x0o),(1,.sl 1 x1),(2,.int .i64 x2),(3,.int .i64 x3),(8,.lp 8 0),(9,.sl 1 x9),(10,.int .i64 x10),(11,.int .i64 x11),(12,.int .i64 x12),(13,.bool x13)] [(8,[.int .i64 y8_0,.sl 1 y8_1,.int .i64 y8_2])]) H (kAt PP o rec k body [1,1,1,0,1,0,0,1,0,0,1,1,1] [n0] (K0 PP Go.Proofs.Try.f88)):=by
 intros x0b x0o x1 x2 x3 x9 x10 x11 x12 x13 y8_0 y8_1 y8_2 H
 unfold j9
 try simp only [hL0,j11_eq rec k n0 L0 hL0,-eq_self]
 kernel_rfl
theorem l6_eq (rec:Rec) (k:Nat) (n0:Nat) (L0:TL0) (hL0:PhL0 rec k n0 L0):∀ n x0b x0o x1 x2 x3 x9 x10 x11 x12 x13 x14 y8_0 y8_1 y8_2 H,l6 rec k L0 n x0b x0o x1 x2 x3 x9 x10 x11 x12 x13 x14 y8_0 y8_1 y8_2 H=iter (o.at (lbody (sub body [1,1,1,0,1,0,0,1,0,0,1,1,0,1,0]))) (ex PP o rec k (lbody (sub body [1,1,1,0,1,0,0,1,0,0,1,1,0,1,0]))) (kAt PP o rec k body [1,1,1,0,1,0,0,1,0,0,1,1,0,1,0] [n0] (K0 PP Go.Proofs.Try.f88)) n (St.of 232 [(0,.ptr x0b x0o),(1,.sl 1 x1),(2,.int .i64 x2),(3,.int .i64 x3),(8,.lp 8 0),(9,.sl 1 x9),(10,.int .i64 x10),(11,.int .i64 x11),(12,.int .i64 x12),(13,.bool x13),(14,.int .i64 x14)] [(8,[.int .i64 y8_0,.sl 1 y8_1,.int .i64 y8_2])]) H:=by
 intro n
 induction n with
 | zero=>intros; rfl
 | succ n ih=>
  intros x0b x0o x1 x2 x3 x9 x10 x11 x12 x13 x14 y8_0 y8_1 y8_2 H
  simp only [l6,hL0,j8_eq rec k n0 L0 hL0 n (l6 rec k L0 n) (fun x0b x0o x1 x2 x3 x9 x10 x11 x12 x13 x14 y8_0 y8_1 y8_2 H=>ih x0b x0o x1 x2 x3 x9 x10 x11 x12 x13 x14 y8_0 y8_1 y8_2 H),j9_eq rec k n0 L0 hL0,ih,-eq_self]
  kernel_rfl
theorem j4_eq (rec:Rec) (k:Nat) (n0:Nat) (L0:TL0) (hL0:PhL0 rec k n0 L0):∀ x0b x0o x1 x2 x3 x9 x10 x11 x12 x13 y8_0 y8_1 y8_2 H,j4 rec k L0 x0b x0o x1 x2 x3 x9 x10 x11 x12 x13 y8_0 y8_1 y8_2 H=ex PP o rec k (sub body [1,1,1,0,1,0,0,1,0,0,1,1]) (St.of 232 [(0,.ptr x0b x0o),(1,.sl 1 x1),(2,.int .i64 x2),(3,.int .i64 x3),(8,.lp 8 0),(9,.sl 1 x9),(10,.int .i64 x10),(11,.int .i64 x11),(12,.int .i64 x12),(13,.bool x13)] [(8,[.int .i64 y8_0,.sl 1 y8_1,.int .i64 y8_2])]) H (kAt PP o rec k body [1,1,1,0,1,0,0,1,0,0,1,1] [n0] (K0 PP Go.Proofs.Try.f88)):=by
 intros x0b x0o x1 x2 x3 x9 x10 x11 x12 x13 y8_0 y8_1 y8_2 H
 unfold j4
 try simp only [hL0,l6_eq rec k n0 L0 hL0,-eq_self]
 kernel_rfl
theorem j2_eq (rec:Rec) (k:Nat) (n0:Nat) (L0:TL0) (hL0:PhL0 rec k n0 L0):∀ x0b x0o x1 x2 x3 x9 x10 x11 y8_0 y8_1 y8_2 H,j2 rec k L0 x0b x0o x1 x2 x3 x9 x10 x11 y8_0 y8_1 y8_2 H=ex PP o rec k (sub body [1,1,1,0,1,0,0,1]) (St.of 232 [(0,.ptr x0b x0o),(1,.sl 1 x1),(2,.int .i64 x2),(3,.int .i64 x3),(8,.lp 8 0),(9,.sl 1 x9),(10,.int .i64 x10),(11,.int .i64 x11)] [(8,[.int .i64 y8_0,.sl 1 y8_1,.int .i64 y8_2])]) H (kAt PP o rec k body [1,1,1,0,1,0,0,1] [n0] (K0 PP Go.Proofs.Try.f88)):=by
 intros x0b x0o x1 x2 x3 x9 x10 x11 y8_0 y8_1 y8_2 H
 unfold j2
 try simp only [hL0,j4_eq rec k n0 L0 hL0,-eq_self]
 kernel_rfl
theorem j12_eq (rec:Rec) (k:Nat):∀ y8_0 y8_1 y8_2 y18_0 y18_1 y18_2 H,j12 rec k y8_0 y8_1 y8_2 y18_0 y18_1 y18_2 H=ex PP o rec k (sub body [1,1,1,1,1,1,1,1,1,1]) (St.of 232 [(8,.lp 8 0),(18,.lp 18 0)] [(8,[.int .i64 y8_0,.sl 1 y8_1,.int .i64 y8_2]),(18,[.int .i64 y18_0,.sl 1 y18_1,.int .i64 y18_2])]) H (kAt PP o rec k body [1,1,1,1,1,1,1,1,1,1] [] (K0 PP Go.Proofs.Try.f88)):=by
 intros y8_0 y8_1 y8_2 y18_0 y18_1 y18_2 H
 unfold j12
 kernel_rfl
theorem j10_eq (rec:Rec) (k:Nat):∀ x0b x0o x2 x3 y8_0 y8_1 y8_2 y18_0 y18_1 y18_2 H,j10 rec k x0b x0o x2 x3 y8_0 y8_1 y8_2 y18_0 y18_1 y18_2 H=ex PP o rec k (sub body [1,1,1,1,1,1,1,1,1]) (St.of 232 [(0,.ptr x0b x0o),(2,.int .i64 x2),(3,.int .i64 x3),(8,.lp 8 0),(18,.lp 18 0)] [(8,[.int .i64 y8_0,.sl 1 y8_1,.int .i64 y8_2]),(18,[.int .i64 y18_0,.sl 1 y18_1,.int .i64 y18_2])]) H (kAt PP o rec k body [1,1,1,1,1,1,1,1,1] [] (K0 PP Go.Proofs.Try.f88)):=by
 intros x0b x0o x2 x3 y8_0 y8_1 y8_2 y18_0 y18_1 y18_2 H
 unfold j10
 try simp only [j12_eq rec k,-eq_self]
 kernel_rfl
theorem j7_eq (rec:Rec) (k:Nat):∀ x0b x0o x1 x2 x3 x9 x15 x16 y8_0 y8_1 y8_2 H,j7 rec k x0b x0o x1 x2 x3 x9 x15 x16 y8_0 y8_1 y8_2 H=ex PP o rec k (sub body [1,1,1,1,1,1,1]) (St.of 232 [(0,.ptr x0b x0o),(1,.sl 1 x1),(2,.int .i64 x2),(3,.int .i64 x3),(8,.lp 8 0),(9,.sl 1 x9),(15,.int .i64 x15),(16,.int .i64 x16)] [(8,[.int .i64 y8_0,.sl 1 y8_1,.int .i64 y8_2])]) H (kAt PP o rec k body [1,1,1,1,1,1,1] [] (K0 PP Go.Proofs.Try.f88)):=by
 intros x0b x0o x1 x2 x3 x9 x15 x16 y8_0 y8_1 y8_2 H
 unfold j7
 try simp only [j10_eq rec k,-eq_self]
 kernel_rfl
theorem l5_eq (rec:Rec) (k:Nat):∀ n x0b x0o x1 x2 x3 x9 x15 x16 x17 y8_0 y8_1 y8_2 H,l5 rec k n x0b x0o x1 x2 x3 x9 x15 x16 x17 y8_0 y8_1 y8_2 H=iter (o.at (lbody (sub body [1,1,1,1,1,1,0,1,0]))) (ex PP o rec k (lbody (sub body [1,1,1,1,1,1,0,1,0]))) (kAt PP o rec k body [1,1,1,1,1,1,0,1,0] [] (K0 PP Go.Proofs.Try.f88)) n (St.of 232 [(0,.ptr x0b x0o),(1,.sl 1 x1),(2,.int .i64 x2),(3,.int .i64 x3),(8,.lp 8 0),(9,.sl 1 x9),(15,.int .i64 x15),(16,.int .i64 x16),(17,.int .i64 x17)] [(8,[.int .i64 y8_0,.sl 1 y8_1,.int .i64 y8_2])]) H:=by
 intro n
 induction n with
 | zero=>intros; rfl
 | succ n ih=>
  intros x0b x0o x1 x2 x3 x9 x15 x16 x17 y8_0 y8_1 y8_2 H
  simp only [l5,j7_eq rec k,ih,-eq_self]
  kernel_rfl
theorem j3_eq (rec:Rec) (k:Nat):∀ x0b x0o x1 x2 x3 x9 y8_0 y8_1 y8_2 H,j3 rec k x0b x0o x1 x2 x3 x9 y8_0 y8_1 y8_2 H=ex PP o rec k (sub body [1,1,1,1]) (St.of 232 [(0,.ptr x0b x0o),(1,.sl 1 x1),(2,.int .i64 x2),(3,.int .i64 x3),(8,.lp 8 0),(9,.sl 1 x9)] [(8,[.int .i64 y8_0,.sl 1 y8_1,.int .i64 y8_2])]) H (kAt PP o rec k body [1,1,1,1] [] (K0 PP Go.Proofs.Try.f88)):=by
 intros x0b x0o x1 x2 x3 x9 y8_0 y8_1 y8_2 H
 unfold j3
 try simp only [l5_eq rec k,-eq_self]
 kernel_rfl
theorem j1_eq (rec:Rec) (k:Nat) (n0:Nat) (L0:TL0) (hL0:PhL0 rec k n0 L0):∀ x0b x0o x1 x2 x3 x9 x10 x11 x38 y8_0 y8_1 y8_2 H,j1 rec k L0 x0b x0o x1 x2 x3 x9 x10 x11 x38 y8_0 y8_1 y8_2 H=ex PP o rec k (sub body [1,1,1,0,1,0,0,0,1]) (St.of 232 [(0,.ptr x0b x0o),(1,.sl 1 x1),(2,.int .i64 x2),(3,.int .i64 x3),(8,.lp 8 0),(9,.sl 1 x9),(10,.int .i64 x10),(11,.int .i64 x11),(38,.bool x38)] [(8,[.int .i64 y8_0,.sl 1 y8_1,.int .i64 y8_2])]) H (kAt PP o rec k body [1,1,1,0,1,0,0,0,1] [n0] (K0 PP Go.Proofs.Try.f88)):=by
 intros x0b x0o x1 x2 x3 x9 x10 x11 x38 y8_0 y8_1 y8_2 H
 unfold j1
 try simp only [hL0,j2_eq rec k n0 L0 hL0,j3_eq rec k,-eq_self]
 kernel_rfl
theorem l0_eq (rec:Rec) (k:Nat):∀ n x0b x0o x1 x2 x3 x9 x10 x11 y8_0 y8_1 y8_2 H,l0 rec k n x0b x0o x1 x2 x3 x9 x10 x11 y8_0 y8_1 y8_2 H=iter (o.at (lbody (sub body [1,1,1,0,1,0]))) (ex PP o rec k (lbody (sub body [1,1,1,0,1,0]))) (kAt PP o rec k body [1,1,1,0,1,0] [] (K0 PP Go.Proofs.Try.f88)) n (St.of 232 [(0,.ptr x0b x0o),(1,.sl 1 x1),(2,.int .i64 x2),(3,.int .i64 x3),(8,.lp 8 0),(9,.sl 1 x9),(10,.int .i64 x10),(11,.int .i64 x11)] [(8,[.int .i64 y8_0,.sl 1 y8_1,.int .i64 y8_2])]) H:=by
 intro n
 induction n with
 | zero=>intros; rfl
 | succ n ih=>
  intros x0b x0o x1 x2 x3 x9 x10 x11 y8_0 y8_1 y8_2 H
  simp only [l0,j1_eq rec k n (l0 rec k n) (fun x0b x0o x1 x2 x3 x9 x10 x11 y8_0 y8_1 y8_2 H=>ih x0b x0o x1 x2 x3 x9 x10 x11 y8_0 y8_1 y8_2 H),ih,-eq_self]
  kernel_rfl
theorem f_eq (rec:Rec) (k:Nat):∀ a0b a0o a1 a2 a3 H,f rec k a0b a0o a1 a2 a3 H=ex PP o rec k body (St.of 232 [(0,.ptr a0b a0o),(1,.sl 1 a1),(2,.int .i64 a2),(3,.int .i64 a3)] []) H (K0 PP Go.Proofs.Try.f88):=by
 intros a0b a0o a1 a2 a3 H
 unfold f
 try simp only [l0_eq rec k,-eq_self]
 kernel_rfl
theorem call (k:Nat):∀ a0b a0o a1 a2 a3 H,callF PP orc (k + 1) spec_l20Rule.id [.ptr a0b a0o,.sl 1 a1,.int .i64 a2,.int .i64 a3] H=f (callF PP orc k) k a0b a0o a1 a2 a3 H:=by
 intros a0b a0o a1 a2 a3 H
 rw [callF_at (fn:=Go.Proofs.Try.f88) (c:=body) Go.Proofs.Try.func88 (by kernel_rfl) (Nat.le_of_ble_eq_true (by kernel_rfl)),f_eq]
 kernel_rfl
end spec_l20Rule
end Go.Proofs.Ytchliocobgkmbaa.Rp
