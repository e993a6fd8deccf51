/- Texts for the row of the law FnSolveSteps, part 9: the plain machine, the program's functions on it, what they come to. No conditions. -/
import Derived.Test.YtchliocobgkmbaaAb
import Derived.Test.YtchliocobgkmbaaOr
import Derived.Test.YtchliocobgkmbaaAk
set_option linter.unusedVariables false
set_option linter.unusedSimpArgs false
set_option maxRecDepth 100000
namespace Go.Proofs.Ytchliocobgkmbaa.Rp
open Go Go.Proofs.Ytchliocobgkmbaa.Ab
namespace spec_NarrowPairs
noncomputable def body:Code:=(Go.Proofs.Try.f103).body.getD .skip
abbrev o:=orc spec_NarrowPairs.id
abbrev TL0:=Sl→Int→Sl→Int→Hp→An
abbrev TL1:=Sl→Int→Sl→Int→Sl→Int→Hp→An
abbrev TL3:=Sl→Int→Sl→Int→Sl→Int→Int→Hp→An
abbrev TL12:=Sl→Int→Sl→Int→Sl→Int→Int→Int→Int→Hp→An
abbrev PhL0 (rec:Rec) (k n0:Nat) (L0:TL0):Prop:=∀ x0 x1 x5 x6 H,L0 x0 x1 x5 x6 H=iter (o.at (lbody (sub body [1,1,1,0,1,0]))) (ex PP o rec k (lbody (sub body [1,1,1,0,1,0]))) (kAt PP o rec k body [1,1,1,0,1,0] [] (K0 PP Go.Proofs.Try.f103)) n0 (St.of 89 [(0,.sl 1 x0),(1,.int .i64 x1),(5,.sl 1 x5),(6,.int .i64 x6)] []) H
abbrev PhL1 (rec:Rec) (k n0 n1:Nat) (L1:TL1):Prop:=∀ x0 x1 x5 x6 x7 x8 H,L1 x0 x1 x5 x6 x7 x8 H=iter (o.at (lbody (sub body [1,1,1,0,1,0,0,1,0,0,1,1,0]))) (ex PP o rec k (lbody (sub body [1,1,1,0,1,0,0,1,0,0,1,1,0]))) (kAt PP o rec k body [1,1,1,0,1,0,0,1,0,0,1,1,0] [n0] (K0 PP Go.Proofs.Try.f103)) n1 (St.of 89 [(0,.sl 1 x0),(1,.int .i64 x1),(5,.sl 1 x5),(6,.int .i64 x6),(7,.sl 1 x7),(8,.int .i64 x8)] []) H
abbrev PhL3 (rec:Rec) (k n0 n1 n3:Nat) (L3:TL3):Prop:=∀ x0 x1 x5 x6 x7 x8 x9 H,L3 x0 x1 x5 x6 x7 x8 x9 H=iter (o.at (lbody (sub body [1,1,1,0,1,0,0,1,0,0,1,1,0,0,1,0,0,1,0]))) (ex PP o rec k (lbody (sub body [1,1,1,0,1,0,0,1,0,0,1,1,0,0,1,0,0,1,0]))) (kAt PP o rec k body [1,1,1,0,1,0,0,1,0,0,1,1,0,0,1,0,0,1,0] [n0,n1] (K0 PP Go.Proofs.Try.f103)) n3 (St.of 89 [(0,.sl 1 x0),(1,.int .i64 x1),(5,.sl 1 x5),(6,.int .i64 x6),(7,.sl 1 x7),(8,.int .i64 x8),(9,.int .i64 x9)] []) H
abbrev PhL12 (rec:Rec) (k n0 n1 n12 n3:Nat) (L12:TL12):Prop:=∀ x0 x1 x5 x6 x7 x8 x9 x10 x11 H,L12 x0 x1 x5 x6 x7 x8 x9 x10 x11 H=iter (o.at (lbody (sub body [1,1,1,0,1,0,0,1,0,0,1,1,0,0,1,0,0,1,0,0,1,0,0,1,1,1,0]))) (ex PP o rec k (lbody (sub body [1,1,1,0,1,0,0,1,0,0,1,1,0,0,1,0,0,1,0,0,1,0,0,1,1,1,0]))) (kAt PP o rec k body [1,1,1,0,1,0,0,1,0,0,1,1,0,0,1,0,0,1,0,0,1,0,0,1,1,1,0] [n0,n1,n3] (K0 PP Go.Proofs.Try.f103)) n12 (St.of 89 [(0,.sl 1 x0),(1,.int .i64 x1),(5,.sl 1 x5),(6,.int .i64 x6),(7,.sl 1 x7),(8,.int .i64 x8),(9,.int .i64 x9),(10,.int .i64 x10),(11,.int .i64 x11)] []) H
noncomputable def j2 (rec:Rec) (k:Nat) (x5:Sl) (H:Hp):An:=some (.sl 1 x5,H)
noncomputable def j4 (rec:Rec) (k:Nat) (L0:TL0) (x0:Sl) (x1:Int) (x5:Sl) (x6:Int) (H:Hp):An:=L0 x0 x1 x5 (IntKind.i64.wrap (x6 + 1)) H
noncomputable def j6 (rec:Rec) (k:Nat) (L0:TL0) (L1:TL1) (x0:Sl) (x1:Int) (x5:Sl) (x6:Int) (x7:Sl) (x8:Int) (H:Hp):An:=L1 x0 x1 x5 x6 x7 (IntKind.i64.wrap (x8 + 1)) H
noncomputable def j10 (rec:Rec) (k:Nat) (L0:TL0) (L1:TL1) (L3:TL3) (x0:Sl) (x1:Int) (x5:Sl) (x6:Int) (x7:Sl) (x8:Int) (x9:Int) (H:Hp):An:=L3 x0 x1 x5 x6 x7 x8 (IntKind.i64.wrap (x9 + 1)) H
noncomputable def j17 (rec:Rec) (k:Nat) (L0:TL0) (L1:TL1) (L3:TL3) (L12:TL12) (x0:Sl) (x1:Int) (x5:Sl) (x6:Int) (x7:Sl) (x8:Int) (x9:Int) (x10:Int) (x11:Int) (H:Hp):An:=L12 x0 x1 x5 x6 x7 x8 x9 x10 (IntKind.i64.wrap (x11 + 1)) H
noncomputable def j16 (rec:Rec) (k:Nat) (L0:TL0) (L1:TL1) (L3:TL3) (L12:TL12) (x0:Sl) (x1:Int) (x5:Sl) (x6:Int) (x7:Sl) (x8:Int) (x9:Int) (x10:Int) (x11:Int) (x72:Bool) (H:Hp):An:=bif x72 then bif decide (0 ≤ (x11:Int)) && decide ((x11:Int) < x7.len) then (ldI .i64 H x7.blk (x7.off + (x11:Int).toNat * 1)).bind fun n13=>bif decide (0 ≤ (x11:Int)) && decide ((x11:Int) < x7.len) then (ldI .i64 H x7.blk (x7.off + (x11:Int).toNat * 1)).bind fun n14=>bif decide (0 ≤ (n14:Int)) && decide ((n14:Int) < x5.len) then (ldI .i64 H x5.blk (x5.off + (n14:Int).toNat * 1)).bind fun n15=>bif decide (0 ≤ (n13:Int)) && decide ((n13:Int) < x5.len) then (H.sto x5.blk (x5.off + (n13:Int).toNat * 1) [.int .i64 (IntKind.i64.wrap (((BitVec.ofInt IntKind.i64.bits n15 &&& ~~~ (BitVec.ofInt IntKind.i64.bits x10)).toNat:Int)))]).bind fun H16=>j17 rec k L0 L1 L3 L12 x0 x1 x5 x6 x7 x8 x9 x10 x11 H16 else none else none else none else none else j17 rec k L0 L1 L3 L12 x0 x1 x5 x6 x7 x8 x9 x10 x11 H
noncomputable def j14 (rec:Rec) (k:Nat) (L0:TL0) (L1:TL1) (L3:TL3) (L12:TL12) (x0:Sl) (x1:Int) (x5:Sl) (x6:Int) (x7:Sl) (x8:Int) (x9:Int) (x10:Int) (x11:Int) (x65:Int) (x66:Int) (x67:Bool) (x68:Bool) (x69:Int) (x70:Int) (x71:Bool) (x72:Bool) (H:Hp):An:=j16 rec k L0 L1 L3 L12 x0 x1 x5 x6 x7 x8 x9 x10 x11 x72 H
noncomputable def j15 (rec:Rec) (k:Nat) (L0:TL0) (L1:TL1) (L3:TL3) (L12:TL12) (x0:Sl) (x1:Int) (x5:Sl) (x6:Int) (x7:Sl) (x8:Int) (x9:Int) (x10:Int) (x11:Int) (x65:Int) (x66:Int) (x67:Bool) (x68:Bool) (x72:Bool) (H:Hp):An:=j16 rec k L0 L1 L3 L12 x0 x1 x5 x6 x7 x8 x9 x10 x11 x72 H
noncomputable def j13 (rec:Rec) (k:Nat) (L0:TL0) (L1:TL1) (L3:TL3) (L12:TL12) (x0:Sl) (x1:Int) (x5:Sl) (x6:Int) (x7:Sl) (x8:Int) (x9:Int) (x10:Int) (x11:Int) (x65:Int) (x66:Int) (x67:Bool) (x68:Bool) (H:Hp):An:=bif x68 then j14 rec k L0 L1 L3 L12 x0 x1 x5 x6 x7 x8 x9 x10 x11 x65 x66 x67 true x11 x9 (x11 != x9) (x11 != x9) H else j15 rec k L0 L1 L3 L12 x0 x1 x5 x6 x7 x8 x9 x10 x11 x65 x66 x67 false false H
noncomputable def l12 (rec:Rec) (k:Nat) (L0:TL0) (L1:TL1) (L3:TL3):Nat→Sl→Int→Sl→Int→Sl→Int→Int→Int→Int→Hp→An
 | 0,_,_,_,_,_,_,_,_,_,_=>none
 | n + 1,x0,x1,x5,x6,x7,x8,x9,x10,x11,H=>bif decide (x11 < x1) then j13 rec k L0 L1 L3 (l12 rec k L0 L1 L3 n) x0 x1 x5 x6 x7 x8 x9 x10 x11 x11 x8 (x11 != x8) (x11 != x8) H else j10 rec k L0 L1 L3 x0 x1 x5 x6 x7 x8 x9 H
noncomputable def j11 (rec:Rec) (k:Nat) (L0:TL0) (L1:TL1) (L3:TL3) (x0:Sl) (x1:Int) (x5:Sl) (x6:Int) (x7:Sl) (x8:Int) (x9:Int) (x10:Int) (H:Hp):An:=l12 rec k L0 L1 L3 k x0 x1 x5 x6 x7 x8 x9 x10 0 H
noncomputable def j9 (rec:Rec) (k:Nat) (L0:TL0) (L1:TL1) (L3:TL3) (x0:Sl) (x1:Int) (x5:Sl) (x6:Int) (x7:Sl) (x8:Int) (x9:Int) (x10:Int) (x59:Bool) (H:Hp):An:=bif x59 then j10 rec k L0 L1 L3 x0 x1 x5 x6 x7 x8 x9 H else j11 rec k L0 L1 L3 x0 x1 x5 x6 x7 x8 x9 x10 H
noncomputable def j7 (rec:Rec) (k:Nat) (L0:TL0) (L1:TL1) (L3:TL3) (x0:Sl) (x1:Int) (x5:Sl) (x6:Int) (x7:Sl) (x8:Int) (x9:Int) (x10:Int) (x45:Int) (x46:Sl) (x47:Sl) (x48:Int) (x49b:Nat) (x49o:Nat) (x50:Int) (x51b:Nat) (x51o:Nat) (x52:Int) (x53:Bool) (x54:Bool) (x59:Bool) (H:Hp):An:=j9 rec k L0 L1 L3 x0 x1 x5 x6 x7 x8 x9 x10 x59 H
noncomputable def j8 (rec:Rec) (k:Nat) (L0:TL0) (L1:TL1) (L3:TL3) (x0:Sl) (x1:Int) (x5:Sl) (x6:Int) (x7:Sl) (x8:Int) (x9:Int) (x10:Int) (x45:Int) (x46:Sl) (x47:Sl) (x48:Int) (x49b:Nat) (x49o:Nat) (x50:Int) (x51b:Nat) (x51o:Nat) (x52:Int) (x53:Bool) (x54:Bool) (x55:Int) (x56:Sl) (x57:Int) (x58:Bool) (x59:Bool) (H:Hp):An:=j9 rec k L0 L1 L3 x0 x1 x5 x6 x7 x8 x9 x10 x59 H
noncomputable def j5 (rec:Rec) (k:Nat) (L0:TL0) (L1:TL1) (L3:TL3) (x0:Sl) (x1:Int) (x5:Sl) (x6:Int) (x7:Sl) (x8:Int) (x9:Int) (x10:Int) (x45:Int) (x46:Sl) (x47:Sl) (x48:Int) (x49b:Nat) (x49o:Nat) (x50:Int) (x51b:Nat) (x51o:Nat) (x52:Int) (x53:Bool) (x54:Bool) (H:Hp):An:=bif x54 then j7 rec k L0 L1 L3 x0 x1 x5 x6 x7 x8 x9 x10 x45 x46 x47 x48 x49b x49o x50 x51b x51o x52 x53 true true H else (rec spec_MaskValues.id [.int .i64 x10] H).bind fun r11=>(r11.1.toS 1).bind fun s12=>j8 rec k L0 L1 L3 x0 x1 x5 x6 x7 x8 x9 x10 x45 x46 x47 x48 x49b x49o x50 x51b x51o x52 x53 false x10 s12 (s12.len:Int) ((s12.len:Int) != 2) ((s12.len:Int) != 2) r11.2
noncomputable def l3 (rec:Rec) (k:Nat) (L0:TL0) (L1:TL1):Nat→Sl→Int→Sl→Int→Sl→Int→Int→Hp→An
 | 0,_,_,_,_,_,_,_,_=>none
 | n + 1,x0,x1,x5,x6,x7,x8,x9,H=>bif decide (x9 < x8) then bif decide (0 ≤ (x8:Int)) && decide ((x8:Int) < x7.len) then (ldI .i64 H x7.blk (x7.off + (x8:Int).toNat * 1)).bind fun n7=>bif decide (0 ≤ (n7:Int)) && decide ((n7:Int) < x0.len) then (ldI .i64 H x0.blk (x0.off + (n7:Int).toNat * 1)).bind fun n8=>bif decide (0 ≤ (x9:Int)) && decide ((x9:Int) < x7.len) then (ldI .i64 H x7.blk (x7.off + (x9:Int).toNat * 1)).bind fun n9=>bif decide (0 ≤ (n9:Int)) && decide ((n9:Int) < x0.len) then (ldI .i64 H x0.blk (x0.off + (n9:Int).toNat * 1)).bind fun n10=>j5 rec k L0 L1 (l3 rec k L0 L1 n) x0 x1 x5 x6 x7 x8 x9 n8 n8 x0 x7 x9 x7.blk (x7.off + (x9:Int).toNat * 1) n9 x0.blk (x0.off + (n9:Int).toNat * 1) n10 (n8 != n10) (n8 != n10) H else none else none else none else none else j6 rec k L0 L1 x0 x1 x5 x6 x7 x8 H
noncomputable def l1 (rec:Rec) (k:Nat) (L0:TL0):Nat→Sl→Int→Sl→Int→Sl→Int→Hp→An
 | 0,_,_,_,_,_,_,_=>none
 | n + 1,x0,x1,x5,x6,x7,x8,H=>bif decide (x8 < x1) then l3 rec k L0 (l1 rec k L0 n) k x0 x1 x5 x6 x7 x8 0 H else j4 rec k L0 x0 x1 x5 x6 H
noncomputable def l0 (rec:Rec) (k:Nat):Nat→Sl→Int→Sl→Int→Hp→An
 | 0,_,_,_,_,_=>none
 | n + 1,x0,x1,x5,x6,H=>bif decide (x6 < (IntKind.i64.wrap (2 * x1))) then (rec spec_LineCells.id [.int .i64 x1,.int .i64 x6] H).bind fun r5=>(r5.1.toS 1).bind fun s6=>l1 rec k (l0 rec k n) k x0 x1 x5 x6 s6 0 r5.2 else j2 rec k x5 H
noncomputable def f (rec:Rec) (k:Nat) (a0:Sl) (a1:Int) (H:Hp):An:=(rec spec_MasksValid.id [.sl 1 a0,.int .i64 a1] H).bind fun r1=>r1.1.toB.bind fun b2=>bif !b2 then some (.sl 1 (Sl.mk false r1.2.length 0 0),r1.2 ++ [some (Blk.mk false [])]) else (rec spec_l6Copy.id [.sl 1 a0] r1.2).bind fun r3=>(r3.1.toS 1).bind fun s4=>l0 rec k k a0 a1 s4 0 r3.2
theorem j2_eq (rec:Rec) (k:Nat):∀ x5 H,j2 rec k x5 H=ex PP o rec k (sub body [1,1,1,1]) (St.of 89 [(5,.sl 1 x5)] []) H (kAt PP o rec k body [1,1,1,1] [] (K0 PP Go.Proofs.Try.f103)):=by
 intros x5 H
 unfold j2
 kernel_rfl
theorem j4_eq (rec:Rec) (k:Nat) (n0:Nat) (L0:TL0) (hL0:PhL0 rec k n0 L0):∀ x0 x1 x5 x6 H,j4 rec k L0 x0 x1 x5 x6 H=ex PP o rec k (sub body [1,1,1,0,1,0,0,1,1]) (St.of 89 [(0,.sl 1 x0),(1,.int .i64 x1),(5,.sl 1 x5),(6,.int .i64 x6)] []) H (kAt PP o rec k body [1,1,1,0,1,0,0,1,1] [n0] (K0 PP Go.Proofs.Try.f103)):=by
 intros x0 x1 x5 x6 H
 unfold j4
 try simp only [hL0,-eq_self]
 kernel_rfl
theorem j6_eq (rec:Rec) (k:Nat) (n0:Nat) (L0:TL0) (hL0:PhL0 rec k n0 L0) (n1:Nat) (L1:TL1) (hL1:PhL1 rec k n0 n1 L1):∀ x0 x1 x5 x6 x7 x8 H,j6 rec k L0 L1 x0 x1 x5 x6 x7 x8 H=ex PP o rec k (sub body [1,1,1,0,1,0,0,1,0,0,1,1,0,0,1,1]) (St.of 89 [(0,.sl 1 x0),(1,.int .i64 x1),(5,.sl 1 x5),(6,.int .i64 x6),(7,.sl 1 x7),(8,.int .i64 x8)] []) H (kAt PP o rec k body [1,1,1,0,1,0,0,1,0,0,1,1,0,0,1,1] [n0,n1] (K0 PP Go.Proofs.Try.f103)):=by
 intros x0 x1 x5 x6 x7 x8 H
 unfold j6
 try simp only [hL0,hL1,-eq_self]
 kernel_rfl
theorem j10_eq (rec:Rec) (k:Nat) (n0:Nat) (L0:TL0) (hL0:PhL0 rec k n0 L0) (n1:Nat) (L1:TL1) (hL1:PhL1 rec k n0 n1 L1) (n3:Nat) (L3:TL3) (hL3:PhL3 rec k n0 n1 n3 L3):∀ x0 x1 x5 x6 x7 x8 x9 H,j10 rec k L0 L1 L3 x0 x1 x5 x6 x7 x8 x9 H=ex PP o rec k (sub body [1,1,1,0,1,0,0,1,0,0,1,1,0,0,1,0,0,1,0,0,1,1]) (St.of 89 [(0,.sl 1 x0),(1,.int .i64 x1),(5,.sl 1 x5),(6,.int .i64 x6),(7,.sl 1 x7),(8,.int .i64 x8),(9,.int .i64 x9)] []) H (kAt PP o rec k body [1,1,1,0,1,0,0,1,0,0,1,1,0,0,1,0,0,1,0,0,1,1] [n0,n1,n3] (K0 PP Go.Proofs.Try.f103)):=by
 intros x0 x1 x5 x6 x7 x8 x9 H
 unfold j10
 try simp only [hL0,hL1,hL3,-eq_self]
 kernel_rfl
theorem j17_eq (rec:Rec) (k:Nat) (n0:Nat) (L0:TL0) (hL0:PhL0 rec k n0 L0) (n1:Nat) (L1:TL1) (hL1:PhL1 rec k n0 n1 L1) (n3:Nat) (L3:TL3) (hL3:PhL3 rec k n0 n1 n3 L3) (n12:Nat) (L12:TL12) (hL12:PhL12 rec k n0 n1 n12 n3 L12):∀ x0 x1 x5 x6 x7 x8 x9 x10 x11 H,j17 rec k L0 L1 L3 L12 x0 x1 x5 x6 x7 x8 x9 x10 x11 H=ex PP o rec k (sub body [1,1,1,0,1,0,0,1,0,0,1,1,0,0,1,0,0,1,0,0,1,0,0,1,1,1,0,0,1,1]) (St.of 89 [(0,.sl 1 x0),(1,.int .i64 x1),(5,.sl 1 x5),(6,.int .i64 x6),(7,.sl 1 x7),(8,.int .i64 x8),(9,.int .i64 x9),(10,.int .i64 x10),(11,.int .i64 x11)] []) H (kAt PP o rec k body [1,1,1,0,1,0,0,1,0,0,1,1,0,0,1,0,0,1,0,0,1,0,0,1,1,1,0,0,1,1] [n0,n1,n3,n12] (K0 PP Go.Proofs.Try.f103)):=by
 intros x0 x1 x5 x6 x7 x8 x9 x10 x11 H
 unfold j17
 try simp only [hL0,hL1,hL3,hL12,-eq_self]
 kernel_rfl
theorem j16_eq (rec:Rec) (k:Nat) (n0:Nat) (L0:TL0) (hL0:PhL0 rec k n0 L0) (n1:Nat) (L1:TL1) (hL1:PhL1 rec k n0 n1 L1) (n3:Nat) (L3:TL3) (hL3:PhL3 rec k n0 n1 n3 L3) (n12:Nat) (L12:TL12) (hL12:PhL12 rec k n0 n1 n12 n3 L12):∀ x0 x1 x5 x6 x7 x8 x9 x10 x11 x72 H,j16 rec k L0 L1 L3 L12 x0 x1 x5 x6 x7 x8 x9 x10 x11 x72 H=ex PP o rec k (sub body [1,1,1,0,1,0,0,1,0,0,1,1,0,0,1,0,0,1,0,0,1,0,0,1,1,1,0,0,1,0,0,1]) (St.of 89 [(0,.sl 1 x0),(1,.int .i64 x1),(5,.sl 1 x5),(6,.int .i64 x6),(7,.sl 1 x7),(8,.int .i64 x8),(9,.int .i64 x9),(10,.int .i64 x10),(11,.int .i64 x11),(72,.bool x72)] []) H (kAt PP o rec k body [1,1,1,0,1,0,0,1,0,0,1,1,0,0,1,0,0,1,0,0,1,0,0,1,1,1,0,0,1,0,0,1] [n0,n1,n3,n12] (K0 PP Go.Proofs.Try.f103)):=by
 intros x0 x1 x5 x6 x7 x8 x9 x10 x11 x72 H
 unfold j16
 try simp only [hL0,hL1,hL3,hL12,j17_eq rec k n0 L0 hL0 n1 L1 hL1 n3 L3 hL3 n12 L12 hL12,-eq_self]
 kernel_rfl
theorem j14_eq (rec:Rec) (k:Nat) (n0:Nat) (L0:TL0) (hL0:PhL0 rec k n0 L0) (n1:Nat) (L1:TL1) (hL1:PhL1 rec k n0 n1 L1) (n3:Nat) (L3:TL3) (hL3:PhL3 rec k n0 n1 n3 L3) (n12:Nat) (L12:TL12) (hL12:PhL12 rec k n0 n1 n12 n3 L12):∀ x0 x1 x5 x6 x7 x8 x9 x10 x11 x65 x66 x67 x68 x69 x70 x71 x72 H,j14 rec k L0 L1 L3 L12 x0 x1 x5 x6 x7 x8 x9 x10 x11 x65 x66 x67 x68 x69 x70 x71 x72 H=(kAt PP o rec k body [1,1,1,0,1,0,0,1,0,0,1,1,0,0,1,0,0,1,0,0,1,0,0,1,1,1,0,0,1,0,0,0] [n0,n1,n3,n12] (K0 PP Go.Proofs.Try.f103)) .normal (St.of 89 [(0,.sl 1 x0),(1,.int .i64 x1),(5,.sl 1 x5),(6,.int .i64 x6),(7,.sl 1 x7),(8,.int .i64 x8),(9,.int .i64 x9),(10,.int .i64 x10),(11,.int .i64 x11),(65,.int .i64 x65),(66,.int .i64 x66),(67,.bool x67),(68,.bool x68),(69,.int .i64 x69),(70,.int .i64 x70),(71,.bool x71),(72,.bool x72)] []) H:=by
 intros x0 x1 x5 x6 x7 x8 x9 x10 x11 x65 x66 x67 x68 x69 x70 x71 x72 H
 unfold j14
 try simp only [hL0,hL1,hL3,hL12,j16_eq rec k n0 L0 hL0 n1 L1 hL1 n3 L3 hL3 n12 L12 hL12,-eq_self]
 kernel_rfl
theorem j15_eq (rec:Rec) (k:Nat) (n0:Nat) (L0:TL0) (hL0:PhL0 rec k n0 L0) (n1:Nat) (L1:TL1) (hL1:PhL1 rec k n0 n1 L1) (n3:Nat) (L3:TL3) (hL3:PhL3 rec k n0 n1 n3 L3) (n12:Nat) (L12:TL12) (hL12:PhL12 rec k n0 n1 n12 n3 L12):∀ x0 x1 x5 x6 x7 x8 x9 x10 x11 x65 x66 x67 x68 x72 H,j15 rec k L0 L1 L3 L12 x0 x1 x5 x6 x7 x8 x9 x10 x11 x65 x66 x67 x68 x72 H=(kAt PP o rec k body [1,1,1,0,1,0,0,1,0,0,1,1,0,0,1,0,0,1,0,0,1,0,0,1,1,1,0,0,1,0,0,0] [n0,n1,n3,n12] (K0 PP Go.Proofs.Try.f103)) .normal (St.of 89 [(0,.sl 1 x0),(1,.int .i64 x1),(5,.sl 1 x5),(6,.int .i64 x6),(7,.sl 1 x7),(8,.int .i64 x8),(9,.int .i64 x9),(10,.int .i64 x10),(11,.int .i64 x11),(65,.int .i64 x65),(66,.int .i64 x66),(67,.bool x67),(68,.bool x68),(69,.tup []),(70,.tup []),(71,.tup []),(72,.bool x72)] []) H:=by
 intros x0 x1 x5 x6 x7 x8 x9 x10 x11 x65 x66 x67 x68 x72 H
 unfold j15
 try simp only [hL0,hL1,hL3,hL12,j16_eq rec k n0 L0 hL0 n1 L1 hL1 n3 L3 hL3 n12 L12 hL12,-eq_self]
 kernel_rfl
theorem j13_run (rec:Rec) (K:St→Hp→An):∀ (x0:Sl) (x1:Int) (x5:Sl) (x6:Int) (x7:Sl) (x8:Int) (x9:Int) (x10:Int) (x11:Int) (x65:Int) (x66:Int) (x67:Bool) (x68:Bool) H,exOps PP o rec (rops (sub body [1,1,1,0,1,0,0,1,0,0,1,1,0,0,1,0,0,1,0,0,1,0,0,1,1,1,0,0,1,0,0,0])) ((rops (sub body [1,1,1,0,1,0,0,1,0,0,1,1,0,0,1,0,0,1,0,0,1,0,0,1,1,1,0,0,1,0,0,0])).toList.drop 4) (St.of 89 [(0,.sl 1 x0),(1,.int .i64 x1),(5,.sl 1 x5),(6,.int .i64 x6),(7,.sl 1 x7),(8,.int .i64 x8),(9,.int .i64 x9),(10,.int .i64 x10),(11,.int .i64 x11),(65,.int .i64 x65),(66,.int .i64 x66),(67,.bool x67),(68,.bool x68)] []) H K=bif x68 then K (St.of 89 [(0,.sl 1 x0),(1,.int .i64 x1),(5,.sl 1 x5),(6,.int .i64 x6),(7,.sl 1 x7),(8,.int .i64 x8),(9,.int .i64 x9),(10,.int .i64 x10),(11,.int .i64 x11),(65,.int .i64 x65),(66,.int .i64 x66),(67,.bool x67),(68,.bool true),(69,.int .i64 x11),(70,.int .i64 x9),(71,.bool (x11 != x9)),(72,.bool (x11 != x9))] []) H else K (St.of 89 [(0,.sl 1 x0),(1,.int .i64 x1),(5,.sl 1 x5),(6,.int .i64 x6),(7,.sl 1 x7),(8,.int .i64 x8),(9,.int .i64 x9),(10,.int .i64 x10),(11,.int .i64 x11),(65,.int .i64 x65),(66,.int .i64 x66),(67,.bool x67),(68,.bool false),(69,.tup []),(70,.tup []),(71,.tup []),(72,.bool false)] []) H:=by
 intros x0 x1 x5 x6 x7 x8 x9 x10 x11 x65 x66 x67 x68 H
 cases x68 <;> kernel_rfl
theorem j13_eq (rec:Rec) (k:Nat) (n0:Nat) (L0:TL0) (hL0:PhL0 rec k n0 L0) (n1:Nat) (L1:TL1) (hL1:PhL1 rec k n0 n1 L1) (n3:Nat) (L3:TL3) (hL3:PhL3 rec k n0 n1 n3 L3) (n12:Nat) (L12:TL12) (hL12:PhL12 rec k n0 n1 n12 n3 L12):∀ x0 x1 x5 x6 x7 x8 x9 x10 x11 x65 x66 x67 x68 H,j13 rec k L0 L1 L3 L12 x0 x1 x5 x6 x7 x8 x9 x10 x11 x65 x66 x67 x68 H=exOps PP o rec (rops (sub body [1,1,1,0,1,0,0,1,0,0,1,1,0,0,1,0,0,1,0,0,1,0,0,1,1,1,0,0,1,0,0,0])) ((rops (sub body [1,1,1,0,1,0,0,1,0,0,1,1,0,0,1,0,0,1,0,0,1,0,0,1,1,1,0,0,1,0,0,0])).toList.drop 4) (St.of 89 [(0,.sl 1 x0),(1,.int .i64 x1),(5,.sl 1 x5),(6,.int .i64 x6),(7,.sl 1 x7),(8,.int .i64 x8),(9,.int .i64 x9),(10,.int .i64 x10),(11,.int .i64 x11),(65,.int .i64 x65),(66,.int .i64 x66),(67,.bool x67),(68,.bool x68)] []) H (fun s H=>(kAt PP o rec k body [1,1,1,0,1,0,0,1,0,0,1,1,0,0,1,0,0,1,0,0,1,0,0,1,1,1,0,0,1,0,0,0] [n0,n1,n3,n12] (K0 PP Go.Proofs.Try.f103)) .normal s H):=by
 intros x0 x1 x5 x6 x7 x8 x9 x10 x11 x65 x66 x67 x68 H
 unfold j13
 try simp only [hL0,hL1,hL3,hL12,j14_eq rec k n0 L0 hL0 n1 L1 hL1 n3 L3 hL3 n12 L12 hL12,j15_eq rec k n0 L0 hL0 n1 L1 hL1 n3 L3 hL3 n12 L12 hL12,-eq_self]
 exact (j13_run rec _ x0 x1 x5 x6 x7 x8 x9 x10 x11 x65 x66 x67 x68 H).symm
theorem l12_eq (rec:Rec) (k:Nat) (n0:Nat) (L0:TL0) (hL0:PhL0 rec k n0 L0) (n1:Nat) (L1:TL1) (hL1:PhL1 rec k n0 n1 L1) (n3:Nat) (L3:TL3) (hL3:PhL3 rec k n0 n1 n3 L3):∀ n x0 x1 x5 x6 x7 x8 x9 x10 x11 H,l12 rec k L0 L1 L3 n x0 x1 x5 x6 x7 x8 x9 x10 x11 H=iter (o.at (lbody (sub body [1,1,1,0,1,0,0,1,0,0,1,1,0,0,1,0,0,1,0,0,1,0,0,1,1,1,0]))) (ex PP o rec k (lbody (sub body [1,1,1,0,1,0,0,1,0,0,1,1,0,0,1,0,0,1,0,0,1,0,0,1,1,1,0]))) (kAt PP o rec k body [1,1,1,0,1,0,0,1,0,0,1,1,0,0,1,0,0,1,0,0,1,0,0,1,1,1,0] [n0,n1,n3] (K0 PP Go.Proofs.Try.f103)) n (St.of 89 [(0,.sl 1 x0),(1,.int .i64 x1),(5,.sl 1 x5),(6,.int .i64 x6),(7,.sl 1 x7),(8,.int .i64 x8),(9,.int .i64 x9),(10,.int .i64 x10),(11,.int .i64 x11)] []) H:=by
 intro n
 induction n with
 | zero=>intros; rfl
 | succ n ih=>
  intros x0 x1 x5 x6 x7 x8 x9 x10 x11 H
  simp only [l12,hL0,hL1,hL3,j13_eq rec k n0 L0 hL0 n1 L1 hL1 n3 L3 hL3 n (l12 rec k L0 L1 L3 n) (fun x0 x1 x5 x6 x7 x8 x9 x10 x11 H=>ih x0 x1 x5 x6 x7 x8 x9 x10 x11 H),j10_eq rec k n0 L0 hL0 n1 L1 hL1 n3 L3 hL3,ih,-eq_self]
  kernel_rfl
theorem j11_eq (rec:Rec) (k:Nat) (n0:Nat) (L0:TL0) (hL0:PhL0 rec k n0 L0) (n1:Nat) (L1:TL1) (hL1:PhL1 rec k n0 n1 L1) (n3:Nat) (L3:TL3) (hL3:PhL3 rec k n0 n1 n3 L3):∀ x0 x1 x5 x6 x7 x8 x9 x10 H,j11 rec k L0 L1 L3 x0 x1 x5 x6 x7 x8 x9 x10 H=ex PP o rec k (sub body [1,1,1,0,1,0,0,1,0,0,1,1,0,0,1,0,0,1,0,0,1,0,0,1,1]) (St.of 89 [(0,.sl 1 x0),(1,.int .i64 x1),(5,.sl 1 x5),(6,.int .i64 x6),(7,.sl 1 x7),(8,.int .i64 x8),(9,.int .i64 x9),(10,.int .i64 x10)] []) H (kAt PP o rec k body [1,1,1,0,1,0,0,1,0,0,1,1,0,0,1,0,0,1,0,0,1,0,0,1,1] [n0,n1,n3] (K0 PP Go.Proofs.Try.f103)):=by
 intros x0 x1 x5 x6 x7 x8 x9 x10 H
 unfold j11
 try simp only [hL0,hL1,hL3,l12_eq rec k n0 L0 hL0 n1 L1 hL1 n3 L3 hL3,-eq_self]
 kernel_rfl
theorem j9_eq (rec:Rec) (k:Nat) (n0:Nat) (L0:TL0) (hL0:PhL0 rec k n0 L0) (n1:Nat) (L1:TL1) (hL1:PhL1 rec k n0 n1 L1) (n3:Nat) (L3:TL3) (hL3:PhL3 rec k n0 n1 n3 L3):∀ x0 x1 x5 x6 x7 x8 x9 x10 x59 H,j9 rec k L0 L1 L3 x0 x1 x5 x6 x7 x8 x9 x10 x59 H=ex PP o rec k (sub body [1,1,1,0,1,0,0,1,0,0,1,1,0,0,1,0,0,1,0,0,1,0,0,1,0,1]) (St.of 89 [(0,.sl 1 x0),(1,.int .i64 x1),(5,.sl 1 x5),(6,.int .i64 x6),(7,.sl 1 x7),(8,.int .i64 x8),(9,.int .i64 x9),(10,.int .i64 x10),(59,.bool x59)] []) H (kAt PP o rec k body [1,1,1,0,1,0,0,1,0,0,1,1,0,0,1,0,0,1,0,0,1,0,0,1,0,1] [n0,n1,n3] (K0 PP Go.Proofs.Try.f103)):=by
 intros x0 x1 x5 x6 x7 x8 x9 x10 x59 H
 unfold j9
 try simp only [hL0,hL1,hL3,j10_eq rec k n0 L0 hL0 n1 L1 hL1 n3 L3 hL3,j11_eq rec k n0 L0 hL0 n1 L1 hL1 n3 L3 hL3,-eq_self]
 kernel_rfl
theorem j7_eq (rec:Rec) (k:Nat) (n0:Nat) (L0:TL0) (hL0:PhL0 rec k n0 L0) (n1:Nat) (L1:TL1) (hL1:PhL1 rec k n0 n1 L1) (n3:Nat) (L3:TL3) (hL3:PhL3 rec k n0 n1 n3 L3):∀ x0 x1 x5 x6 x7 x8 x9 x10 x45 x46 x47 x48 x49b x49o x50 x51b x51o x52 x53 x54 x59 H,j7 rec k L0 L1 L3 x0 x1 x5 x6 x7 x8 x9 x10 x45 x46 x47 x48 x49b x49o x50 x51b x51o x52 x53 x54 x59 H=(kAt PP o rec k body [1,1,1,0,1,0,0,1,0,0,1,1,0,0,1,0,0,1,0,0,1,0,0,1,0,0] [n0,n1,n3] (K0 PP Go.Proofs.Try.f103)) .normal (St.of 89 [(0,.sl 1 x0),(1,.int .i64 x1),(5,.sl 1 x5),(6,.int .i64 x6),(7,.sl 1 x7),(8,.int .i64 x8),(9,.int .i64 x9),(10,.int .i64 x10),(45,.int .i64 x45),(46,.sl 1 x46),(47,.sl 1 x47),(48,.int .i64 x48),(49,.ptr x49b x49o),(50,.int .i64 x50),(51,.ptr x51b x51o),(52,.int .i64 x52),(53,.bool x53),(54,.bool x54),(55,.tup []),(56,.tup []),(57,.tup []),(58,.tup []),(59,.bool x59)] []) H:=by
 intros x0 x1 x5 x6 x7 x8 x9 x10 x45 x46 x47 x48 x49b x49o x50 x51b x51o x52 x53 x54 x59 H
 unfold j7
 try simp only [hL0,hL1,hL3,j9_eq rec k n0 L0 hL0 n1 L1 hL1 n3 L3 hL3,-eq_self]
 kernel_rfl
theorem j8_eq (rec:Rec) (k:Nat) (n0:Nat) (L0:TL0) (hL0:PhL0 rec k n0 L0) (n1:Nat) (L1:TL1) (hL1:PhL1 rec k n0 n1 L1) (n3:Nat) (L3:TL3) (hL3:PhL3 rec k n0 n1 n3 L3):∀ x0 x1 x5 x6 x7 x8 x9 x10 x45 x46 x47 x48 x49b x49o x50 x51b x51o x52 x53 x54 x55 x56 x57 x58 x59 H,j8 rec k L0 L1 L3 x0 x1 x5 x6 x7 x8 x9 x10 x45 x46 x47 x48 x49b x49o x50 x51b x51o x52 x53 x54 x55 x56 x57 x58 x59 H=(kAt PP o rec k body [1,1,1,0,1,0,0,1,0,0,1,1,0,0,1,0,0,1,0,0,1,0,0,1,0,0] [n0,n1,n3] (K0 PP Go.Proofs.Try.f103)) .normal (St.of 89 [(0,.sl 1 x0),(1,.int .i64 x1),(5,.sl 1 x5),(6,.int .i64 x6),(7,.sl 1 x7),(8,.int .i64 x8),(9,.int .i64 x9),(10,.int .i64 x10),(45,.int .i64 x45),(46,.sl 1 x46),(47,.sl 1 x47),(48,.int .i64 x48),(49,.ptr x49b x49o),(50,.int .i64 x50),(51,.ptr x51b x51o),(52,.int .i64 x52),(53,.bool x53),(54,.bool x54),(55,.int .i64 x55),(56,.sl 1 x56),(57,.int .i64 x57),(58,.bool x58),(59,.bool x59)] []) H:=by
 intros x0 x1 x5 x6 x7 x8 x9 x10 x45 x46 x47 x48 x49b x49o x50 x51b x51o x52 x53 x54 x55 x56 x57 x58 x59 H
 unfold j8
 try simp only [hL0,hL1,hL3,j9_eq rec k n0 L0 hL0 n1 L1 hL1 n3 L3 hL3,-eq_self]
 kernel_rfl
theorem j5_run (rec:Rec) (K:St→Hp→An):∀ (x0:Sl) (x1:Int) (x5:Sl) (x6:Int) (x7:Sl) (x8:Int) (x9:Int) (x10:Int) (x45:Int) (x46:Sl) (x47:Sl) (x48:Int) (x49b:Nat) (x49o:Nat) (x50:Int) (x51b:Nat) (x51o:Nat) (x52:Int) (x53:Bool) (x54:Bool) H,exOps PP o rec (rops (sub body [1,1,1,0,1,0,0,1,0,0,1,1,0,0,1,0,0,1,0,0,1,0,0,1,0,0])) ((rops (sub body [1,1,1,0,1,0,0,1,0,0,1,1,0,0,1,0,0,1,0,0,1,0,0,1,0,0])).toList.drop 10) (St.of 89 [(0,.sl 1 x0),(1,.int .i64 x1),(5,.sl 1 x5),(6,.int .i64 x6),(7,.sl 1 x7),(8,.int .i64 x8),(9,.int .i64 x9),(10,.int .i64 x10),(45,.int .i64 x45),(46,.sl 1 x46),(47,.sl 1 x47),(48,.int .i64 x48),(49,.ptr x49b x49o),(50,.int .i64 x50),(51,.ptr x51b x51o),(52,.int .i64 x52),(53,.bool x53),(54,.bool x54)] []) H K=bif x54 then K (St.of 89 [(0,.sl 1 x0),(1,.int .i64 x1),(5,.sl 1 x5),(6,.int .i64 x6),(7,.sl 1 x7),(8,.int .i64 x8),(9,.int .i64 x9),(10,.int .i64 x10),(45,.int .i64 x45),(46,.sl 1 x46),(47,.sl 1 x47),(48,.int .i64 x48),(49,.ptr x49b x49o),(50,.int .i64 x50),(51,.ptr x51b x51o),(52,.int .i64 x52),(53,.bool x53),(54,.bool true),(55,.tup []),(56,.tup []),(57,.tup []),(58,.tup []),(59,.bool true)] []) H else (rec spec_MaskValues.id [.int .i64 x10] H).bind fun r11=>(r11.1.toS 1).bind fun s12=>K (St.of 89 [(0,.sl 1 x0),(1,.int .i64 x1),(5,.sl 1 x5),(6,.int .i64 x6),(7,.sl 1 x7),(8,.int .i64 x8),(9,.int .i64 x9),(10,.int .i64 x10),(45,.int .i64 x45),(46,.sl 1 x46),(47,.sl 1 x47),(48,.int .i64 x48),(49,.ptr x49b x49o),(50,.int .i64 x50),(51,.ptr x51b x51o),(52,.int .i64 x52),(53,.bool x53),(54,.bool false),(55,.int .i64 x10),(56,.sl 1 s12),(57,.int .i64 (s12.len:Int)),(58,.bool ((s12.len:Int) != 2)),(59,.bool ((s12.len:Int) != 2))] []) r11.2:=by
 intros x0 x1 x5 x6 x7 x8 x9 x10 x45 x46 x47 x48 x49b x49o x50 x51b x51o x52 x53 x54 H
 cases x54 <;> kernel_rfl
theorem j5_eq (rec:Rec) (k:Nat) (n0:Nat) (L0:TL0) (hL0:PhL0 rec k n0 L0) (n1:Nat) (L1:TL1) (hL1:PhL1 rec k n0 n1 L1) (n3:Nat) (L3:TL3) (hL3:PhL3 rec k n0 n1 n3 L3):∀ x0 x1 x5 x6 x7 x8 x9 x10 x45 x46 x47 x48 x49b x49o x50 x51b x51o x52 x53 x54 H,j5 rec k L0 L1 L3 x0 x1 x5 x6 x7 x8 x9 x10 x45 x46 x47 x48 x49b x49o x50 x51b x51o x52 x53 x54 H=exOps PP o rec (rops (sub body [1,1,1,0,1,0,0,1,0,0,1,1,0,0,1,0,0,1,0,0,1,0,0,1,0,0])) ((rops (sub body [1,1,1,0,1,0,0,1,0,0,1,1,0,0,1,0,0,1,0,0,1,0,0,1,0,0])).toList.drop 10) (St.of 89 [(0,.sl 1 x0),(1,.int .i64 x1),(5,.sl 1 x5),(6,.int .i64 x6),(7,.sl 1 x7),(8,.int .i64 x8),(9,.int .i64 x9),(10,.int .i64 x10),(45,.int .i64 x45),(46,.sl 1 x46),(47,.sl 1 x47),(48,.int .i64 x48),(49,.ptr x49b x49o),(50,.int .i64 x50),(51,.ptr x51b x51o),(52,.int .i64 x52),(53,.bool x53),(54,.bool x54)] []) H (fun s H=>(kAt PP o rec k body [1,1,1,0,1,0,0,1,0,0,1,1,0,0,1,0,0,1,0,0,1,0,0,1,0,0] [n0,n1,n3] (K0 PP Go.Proofs.Try.f103)) .normal s H):=by
 intros x0 x1 x5 x6 x7 x8 x9 x10 x45 x46 x47 x48 x49b x49o x50 x51b x51o x52 x53 x54 H
 unfold j5
 try simp only [hL0,hL1,hL3,j7_eq rec k n0 L0 hL0 n1 L1 hL1 n3 L3 hL3,j8_eq rec k n0 L0 hL0 n1 L1 hL1 n3 L3 hL3,-eq_self]
 exact (j5_run rec _ x0 x1 x5 x6 x7 x8 x9 x10 x45 x46 x47 x48 x49b x49o x50 x51b x51o x52 x53 x54 H).symm
theorem l3_eq (rec:Rec) (k:Nat) (n0:Nat) (L0:TL0) (hL0:PhL0 rec k n0 L0) (n1:Nat) (L1:TL1) (hL1:PhL1 rec k n0 n1 L1):∀ n x0 x1 x5 x6 x7 x8 x9 H,l3 rec k L0 L1 n x0 x1 x5 x6 x7 x8 x9 H=iter (o.at (lbody (sub body [1,1,1,0,1,0,0,1,0,0,1,1,0,0,1,0,0,1,0]))) (ex PP o rec k (lbody (sub body [1,1,1,0,1,0,0,1,0,0,1,1,0,0,1,0,0,1,0]))) (kAt PP o rec k body [1,1,1,0,1,0,0,1,0,0,1,1,0,0,1,0,0,1,0] [n0,n1] (K0 PP Go.Proofs.Try.f103)) n (St.of 89 [(0,.sl 1 x0),(1,.int .i64 x1),(5,.sl 1 x5),(6,.int .i64 x6),(7,.sl 1 x7),(8,.int .i64 x8),(9,.int .i64 x9)] []) H:=by
 intro n
 induction n with
 | zero=>intros; rfl
 | succ n ih=>
  intros x0 x1 x5 x6 x7 x8 x9 H
  simp only [l3,hL0,hL1,j5_eq rec k n0 L0 hL0 n1 L1 hL1 n (l3 rec k L0 L1 n) (fun x0 x1 x5 x6 x7 x8 x9 H=>ih x0 x1 x5 x6 x7 x8 x9 H),j6_eq rec k n0 L0 hL0 n1 L1 hL1,ih,-eq_self]
  kernel_rfl
theorem l1_eq (rec:Rec) (k:Nat) (n0:Nat) (L0:TL0) (hL0:PhL0 rec k n0 L0):∀ n x0 x1 x5 x6 x7 x8 H,l1 rec k L0 n x0 x1 x5 x6 x7 x8 H=iter (o.at (lbody (sub body [1,1,1,0,1,0,0,1,0,0,1,1,0]))) (ex PP o rec k (lbody (sub body [1,1,1,0,1,0,0,1,0,0,1,1,0]))) (kAt PP o rec k body [1,1,1,0,1,0,0,1,0,0,1,1,0] [n0] (K0 PP Go.Proofs.Try.f103)) n (St.of 89 [(0,.sl 1 x0),(1,.int .i64 x1),(5,.sl 1 x5),(6,.int .i64 x6),(7,.sl 1 x7),(8,.int .i64 x8)] []) H:=by
 intro n
 induction n with
 | zero=>intros; rfl
 | succ n ih=>
  intros x0 x1 x5 x6 x7 x8 H
  simp only [l1,hL0,l3_eq rec k n0 L0 hL0 n (l1 rec k L0 n) (fun x0 x1 x5 x6 x7 x8 H=>ih x0 x1 x5 x6 x7 x8 H),j4_eq rec k n0 L0 hL0,ih,-eq_self]
  kernel_rfl
theorem l0_eq (rec:Rec) (k:Nat):∀ n x0 x1 x5 x6 H,l0 rec k n x0 x1 x5 x6 H=iter (o.at (lbody (sub body [1,1,1,0,1,0]))) (ex PP o rec k (lbody (sub body [1,1,1,0,1,0]))) (kAt PP o rec k body [1,1,1,0,1,0] [] (K0 PP Go.Proofs.Try.f103)) n (St.of 89 [(0,.sl 1 x0),(1,.int .i64 x1),(5,.sl 1 x5),(6,.int .i64 x6)] []) H:=by
 intro n
 induction n with
 | zero=>intros; rfl
 | succ n ih=>
  intros x0 x1 x5 x6 H
  simp only [l0,l1_eq rec k n (l0 rec k n) (fun x0 x1 x5 x6 H=>ih x0 x1 x5 x6 H),j2_eq rec k,ih,-eq_self]
  kernel_rfl
theorem f_eq (rec:Rec) (k:Nat):∀ a0 a1 H,f rec k a0 a1 H=ex PP o rec k body (St.of 89 [(0,.sl 1 a0),(1,.int .i64 a1)] []) H (K0 PP Go.Proofs.Try.f103):=by
 intros a0 a1 H
 unfold f
 try simp only [l0_eq rec k,-eq_self]
 kernel_rfl
theorem call (k:Nat):∀ a0 a1 H,callF PP orc (k + 1) spec_NarrowPairs.id [.sl 1 a0,.int .i64 a1] H=f (callF PP orc k) k a0 a1 H:=by
 intros a0 a1 H
 rw [callF_at (fn:=Go.Proofs.Try.f103) (c:=body) Go.Proofs.Try.func103 (by kernel_rfl) (Nat.le_of_ble_eq_true (by kernel_rfl)),f_eq]
 kernel_rfl
end spec_NarrowPairs
end Go.Proofs.Ytchliocobgkmbaa.Rp
