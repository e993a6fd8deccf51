/- Texts for the row of the law FnSolveSteps, part 8: the plain machine, the program's functions on it, what they come to. No conditions. -/
import Derived.Test.YtchliocobgkmbaaAb
import Derived.Test.YtchliocobgkmbaaOr
set_option linter.unusedVariables false
set_option linter.unusedSimpArgs false
set_option maxRecDepth 100000
namespace Go.Proofs.Ytchliocobgkmbaa.Rp
open Go Go.Proofs.Ytchliocobgkmbaa.Ab
namespace impl_NarrowHidden
noncomputable def body:Code:=(Go.Proofs.Try.f80).body.getD .skip
abbrev o:=orc impl_NarrowHidden.id
abbrev TL0:=Sl→Int→Sl→Int→Int→Hp→An
abbrev TL1:=Sl→Int→Sl→Int→Int→Int→Int→Hp→An
abbrev PhL0 (rec:Rec) (k n0:Nat) (L0:TL0):Prop:=∀ x0 x1 x5 x19 x20 H,L0 x0 x1 x5 x19 x20 H=iter (o.at (lbody (sub body [1,1,1,0,1,0]))) (ex PP o rec k (lbody (sub body [1,1,1,0,1,0]))) (kAt PP o rec k body [1,1,1,0,1,0] [] (K0 PP Go.Proofs.Try.f80)) n0 (St.of 60 [(0,.sl 1 x0),(1,.int .i64 x1),(5,.sl 1 x5),(19,.int .i64 x19),(20,.int .i64 x20)] []) H
abbrev PhL1 (rec:Rec) (k n0 n1:Nat) (L1:TL1):Prop:=∀ x0 x1 x5 x6 x7 x19 x20 H,L1 x0 x1 x5 x6 x7 x19 x20 H=iter (o.at (lbody (sub body [1,1,1,0,1,0,0,1,1,0,0,1,1,0]))) (ex PP o rec k (lbody (sub body [1,1,1,0,1,0,0,1,1,0,0,1,1,0]))) (kAt PP o rec k body [1,1,1,0,1,0,0,1,1,0,0,1,1,0] [n0] (K0 PP Go.Proofs.Try.f80)) n1 (St.of 60 [(0,.sl 1 x0),(1,.int .i64 x1),(5,.sl 1 x5),(6,.int .i64 x6),(7,.int .i64 x7),(19,.int .i64 x19),(20,.int .i64 x20)] []) H
noncomputable def j2 (rec:Rec) (k:Nat) (x5:Sl) (H:Hp):An:=some (.sl 1 x5,H)
noncomputable def j4 (rec:Rec) (k:Nat) (L0:TL0) (x0:Sl) (x1:Int) (x5:Sl) (x19:Int) (x20:Int) (H:Hp):An:=L0 x0 x1 x5 x19 (IntKind.i64.wrap (x20 + 1)) H
noncomputable def j5 (rec:Rec) (k:Nat) (L0:TL0) (L1:TL1) (L3:Sl→Int→Sl→Int→Int→Int→Int→Int→Int→Sl→Int→Int→Hp→An) (x0:Sl) (x1:Int) (x5:Sl) (x6:Int) (x7:Int) (x8:Int) (x9:Int) (x19:Int) (x20:Int) (x30:Sl) (x31:Int) (x32:Int) (H:Hp):An:=L3 x0 x1 x5 x6 x7 x8 x9 x19 x20 x30 x31 (IntKind.i64.wrap (x32 + 1)) H
noncomputable def j7 (rec:Rec) (k:Nat) (L0:TL0) (L1:TL1) (x0:Sl) (x1:Int) (x5:Sl) (x6:Int) (x7:Int) (x19:Int) (x20:Int) (H:Hp):An:=L1 x0 x1 x5 x6 (IntKind.i64.wrap (x7 + 1)) x19 x20 H
noncomputable def j6 (rec:Rec) (k:Nat) (L0:TL0) (L1:TL1) (x0:Sl) (x1:Int) (x5:Sl) (x6:Int) (x7:Int) (x8:Int) (x9:Int) (x19:Int) (x20:Int) (H:Hp):An:=bif x9 == 1 then bif decide (0 ≤ (x8:Int)) && decide ((x8:Int) < x5.len) then (ldI .i64 H x5.blk (x5.off + (x8:Int).toNat * 1)).bind fun n9=>if (x7:Int) < 0 then none else bif decide (0 ≤ (x8:Int)) && decide ((x8:Int) < x5.len) then (H.sto x5.blk (x5.off + (x8:Int).toNat * 1) [.int .i64 (IntKind.i64.wrap (((BitVec.ofInt IntKind.i64.bits n9 &&& BitVec.ofInt IntKind.i64.bits (IntKind.i64.wrap (1 * 2 ^ (min (x7:Int).toNat IntKind.i64.bits)))).toNat:Int)))]).bind fun H10=>j7 rec k L0 L1 x0 x1 x5 x6 x7 x19 x20 H10 else none else none else j7 rec k L0 L1 x0 x1 x5 x6 x7 x19 x20 H
noncomputable def l3 (rec:Rec) (k:Nat) (L0:TL0) (L1:TL1):Nat→Sl→Int→Sl→Int→Int→Int→Int→Int→Int→Sl→Int→Int→Hp→An
 | 0,_,_,_,_,_,_,_,_,_,_,_,_,_=>none
 | n + 1,x0,x1,x5,x6,x7,x8,x9,x19,x20,x30,x31,x32,H=>bif decide (x32 < x31) then bif decide (0 ≤ (x32:Int)) && decide ((x32:Int) < x30.len) then (ldI .i64 H x30.blk (x30.off + (x32:Int).toNat * 1)).bind fun n7=>bif decide (0 ≤ (n7:Int)) && decide ((n7:Int) < x0.len) then (ldI .i64 H x0.blk (x0.off + (n7:Int).toNat * 1)).bind fun n8=>if (x7:Int) < 0 then none else bif (IntKind.i64.wrap (((BitVec.ofInt IntKind.i64.bits ((n8:Int).fdiv (2 ^ (min (x7:Int).toNat IntKind.i64.bits))) &&& BitVec.ofInt IntKind.i64.bits 1).toNat:Int))) == 1 then j5 rec k L0 L1 (l3 rec k L0 L1 n) x0 x1 x5 x6 x7 n7 (IntKind.i64.wrap (x9 + 1)) x19 x20 x30 x31 x32 H else j5 rec k L0 L1 (l3 rec k L0 L1 n) x0 x1 x5 x6 x7 x8 x9 x19 x20 x30 x31 x32 H else none else none else j6 rec k L0 L1 x0 x1 x5 x6 x7 x8 x9 x19 x20 H
noncomputable def l1 (rec:Rec) (k:Nat) (L0:TL0):Nat→Sl→Int→Sl→Int→Int→Int→Int→Hp→An
 | 0,_,_,_,_,_,_,_,_=>none
 | n + 1,x0,x1,x5,x6,x7,x19,x20,H=>bif decide (x7 ≤ x1) then (rec impl_LineCells.id [.int .i64 x1,.int .i64 x6] H).bind fun r5=>(r5.1.toS 1).bind fun s6=>l3 rec k L0 (l1 rec k L0 n) k x0 x1 x5 x6 x7 0 0 x19 x20 s6 (s6.len:Int) 0 r5.2 else j4 rec k L0 x0 x1 x5 x19 x20 H
noncomputable def l0 (rec:Rec) (k:Nat):Nat→Sl→Int→Sl→Int→Int→Hp→An
 | 0,_,_,_,_,_,_=>none
 | n + 1,x0,x1,x5,x19,x20,H=>bif decide (x20 < x19) then l1 rec k (l0 rec k n) k x0 x1 x5 x20 1 x19 x20 H else j2 rec k x5 H
noncomputable def f (rec:Rec) (k:Nat) (a0:Sl) (a1:Int) (H:Hp):An:=(rec impl_MasksValid.id [.sl 1 a0,.int .i64 a1] H).bind fun r1=>r1.1.toB.bind fun b2=>bif !b2 then some (.sl 1 Sl.none,r1.2) else (rec slices_Clone_int.id [.sl 1 a0] r1.2).bind fun r3=>(r3.1.toS 1).bind fun s4=>l0 rec k k a0 a1 s4 (IntKind.i64.wrap (2 * a1)) 0 r3.2
theorem j2_eq (rec:Rec) (k:Nat):∀ x5 H,j2 rec k x5 H=ex PP o rec k (sub body [1,1,1,1]) (St.of 60 [(5,.sl 1 x5)] []) H (kAt PP o rec k body [1,1,1,1] [] (K0 PP Go.Proofs.Try.f80)):=by
 intros x5 H
 unfold j2
 kernel_rfl
theorem j4_eq (rec:Rec) (k:Nat) (n0:Nat) (L0:TL0) (hL0:PhL0 rec k n0 L0):∀ x0 x1 x5 x19 x20 H,j4 rec k L0 x0 x1 x5 x19 x20 H=ex PP o rec k (sub body [1,1,1,0,1,0,0,1,1,1]) (St.of 60 [(0,.sl 1 x0),(1,.int .i64 x1),(5,.sl 1 x5),(19,.int .i64 x19),(20,.int .i64 x20)] []) H (kAt PP o rec k body [1,1,1,0,1,0,0,1,1,1] [n0] (K0 PP Go.Proofs.Try.f80)):=by
 intros x0 x1 x5 x19 x20 H
 unfold j4
 try simp only [hL0,-eq_self]
 kernel_rfl
theorem j5_eq (rec:Rec) (k:Nat) (n0:Nat) (L0:TL0) (hL0:PhL0 rec k n0 L0) (n1:Nat) (L1:TL1) (hL1:PhL1 rec k n0 n1 L1) (n3:Nat) (L3:Sl→Int→Sl→Int→Int→Int→Int→Int→Int→Sl→Int→Int→Hp→An) (hL3:∀ x0 x1 x5 x6 x7 x8 x9 x19 x20 x30 x31 x32 H,L3 x0 x1 x5 x6 x7 x8 x9 x19 x20 x30 x31 x32 H=iter (o.at (lbody (sub body [1,1,1,0,1,0,0,1,1,0,0,1,1,0,0,1,0,0,1,0,1,0]))) (ex PP o rec k (lbody (sub body [1,1,1,0,1,0,0,1,1,0,0,1,1,0,0,1,0,0,1,0,1,0]))) (kAt PP o rec k body [1,1,1,0,1,0,0,1,1,0,0,1,1,0,0,1,0,0,1,0,1,0] [n0,n1] (K0 PP Go.Proofs.Try.f80)) n3 (St.of 60 [(0,.sl 1 x0),(1,.int .i64 x1),(5,.sl 1 x5),(6,.int .i64 x6),(7,.int .i64 x7),(8,.int .i64 x8),(9,.int .i64 x9),(19,.int .i64 x19),(20,.int .i64 x20),(30,.sl 1 x30),(31,.int .i64 x31),(32,.int .i64 x32)] []) H):∀ x0 x1 x5 x6 x7 x8 x9 x19 x20 x30 x31 x32 H,j5 rec k L0 L1 L3 x0 x1 x5 x6 x7 x8 x9 x19 x20 x30 x31 x32 H=ex PP o rec k (sub body [1,1,1,0,1,0,0,1,1,0,0,1,1,0,0,1,0,0,1,0,1,0,0,1,1,1]) (St.of 60 [(0,.sl 1 x0),(1,.int .i64 x1),(5,.sl 1 x5),(6,.int .i64 x6),(7,.int .i64 x7),(8,.int .i64 x8),(9,.int .i64 x9),(19,.int .i64 x19),(20,.int .i64 x20),(30,.sl 1 x30),(31,.int .i64 x31),(32,.int .i64 x32)] []) H (kAt PP o rec k body [1,1,1,0,1,0,0,1,1,0,0,1,1,0,0,1,0,0,1,0,1,0,0,1,1,1] [n0,n1,n3] (K0 PP Go.Proofs.Try.f80)):=by
 intros x0 x1 x5 x6 x7 x8 x9 x19 x20 x30 x31 x32 H
 unfold j5
 try simp only [hL0,hL1,hL3,-eq_self]
 kernel_rfl
theorem j7_eq (rec:Rec) (k:Nat) (n0:Nat) (L0:TL0) (hL0:PhL0 rec k n0 L0) (n1:Nat) (L1:TL1) (hL1:PhL1 rec k n0 n1 L1):∀ x0 x1 x5 x6 x7 x19 x20 H,j7 rec k L0 L1 x0 x1 x5 x6 x7 x19 x20 H=ex PP o rec k (sub body [1,1,1,0,1,0,0,1,1,0,0,1,1,0,0,1,1]) (St.of 60 [(0,.sl 1 x0),(1,.int .i64 x1),(5,.sl 1 x5),(6,.int .i64 x6),(7,.int .i64 x7),(19,.int .i64 x19),(20,.int .i64 x20)] []) H (kAt PP o rec k body [1,1,1,0,1,0,0,1,1,0,0,1,1,0,0,1,1] [n0,n1] (K0 PP Go.Proofs.Try.f80)):=by
 intros x0 x1 x5 x6 x7 x19 x20 H
 unfold j7
 try simp only [hL0,hL1,-eq_self]
 kernel_rfl
theorem j6_eq (rec:Rec) (k:Nat) (n0:Nat) (L0:TL0) (hL0:PhL0 rec k n0 L0) (n1:Nat) (L1:TL1) (hL1:PhL1 rec k n0 n1 L1):∀ x0 x1 x5 x6 x7 x8 x9 x19 x20 H,j6 rec k L0 L1 x0 x1 x5 x6 x7 x8 x9 x19 x20 H=ex PP o rec k (sub body [1,1,1,0,1,0,0,1,1,0,0,1,1,0,0,1,0,0,1,1]) (St.of 60 [(0,.sl 1 x0),(1,.int .i64 x1),(5,.sl 1 x5),(6,.int .i64 x6),(7,.int .i64 x7),(8,.int .i64 x8),(9,.int .i64 x9),(19,.int .i64 x19),(20,.int .i64 x20)] []) H (kAt PP o rec k body [1,1,1,0,1,0,0,1,1,0,0,1,1,0,0,1,0,0,1,1] [n0,n1] (K0 PP Go.Proofs.Try.f80)):=by
 intros x0 x1 x5 x6 x7 x8 x9 x19 x20 H
 unfold j6
 try simp only [hL0,hL1,j7_eq rec k n0 L0 hL0 n1 L1 hL1,-eq_self]
 kernel_rfl
theorem l3_eq (rec:Rec) (k:Nat) (n0:Nat) (L0:TL0) (hL0:PhL0 rec k n0 L0) (n1:Nat) (L1:TL1) (hL1:PhL1 rec k n0 n1 L1):∀ n x0 x1 x5 x6 x7 x8 x9 x19 x20 x30 x31 x32 H,l3 rec k L0 L1 n x0 x1 x5 x6 x7 x8 x9 x19 x20 x30 x31 x32 H=iter (o.at (lbody (sub body [1,1,1,0,1,0,0,1,1,0,0,1,1,0,0,1,0,0,1,0,1,0]))) (ex PP o rec k (lbody (sub body [1,1,1,0,1,0,0,1,1,0,0,1,1,0,0,1,0,0,1,0,1,0]))) (kAt PP o rec k body [1,1,1,0,1,0,0,1,1,0,0,1,1,0,0,1,0,0,1,0,1,0] [n0,n1] (K0 PP Go.Proofs.Try.f80)) n (St.of 60 [(0,.sl 1 x0),(1,.int .i64 x1),(5,.sl 1 x5),(6,.int .i64 x6),(7,.int .i64 x7),(8,.int .i64 x8),(9,.int .i64 x9),(19,.int .i64 x19),(20,.int .i64 x20),(30,.sl 1 x30),(31,.int .i64 x31),(32,.int .i64 x32)] []) H:=by
 intro n
 induction n with
 | zero=>intros; rfl
 | succ n ih=>
  intros x0 x1 x5 x6 x7 x8 x9 x19 x20 x30 x31 x32 H
  simp only [l3,hL0,hL1,j5_eq rec k n0 L0 hL0 n1 L1 hL1 n (l3 rec k L0 L1 n) (fun x0 x1 x5 x6 x7 x8 x9 x19 x20 x30 x31 x32 H=>ih x0 x1 x5 x6 x7 x8 x9 x19 x20 x30 x31 x32 H),j6_eq rec k n0 L0 hL0 n1 L1 hL1,ih,-eq_self]
  kernel_rfl
theorem l1_eq (rec:Rec) (k:Nat) (n0:Nat) (L0:TL0) (hL0:PhL0 rec k n0 L0):∀ n x0 x1 x5 x6 x7 x19 x20 H,l1 rec k L0 n x0 x1 x5 x6 x7 x19 x20 H=iter (o.at (lbody (sub body [1,1,1,0,1,0,0,1,1,0,0,1,1,0]))) (ex PP o rec k (lbody (sub body [1,1,1,0,1,0,0,1,1,0,0,1,1,0]))) (kAt PP o rec k body [1,1,1,0,1,0,0,1,1,0,0,1,1,0] [n0] (K0 PP Go.Proofs.Try.f80)) n (St.of 60 [(0,.sl 1 x0),(1,.int .i64 x1),(5,.sl 1 x5),(6,.int .i64 x6),(7,.int .i64 x7),(19,.int .i64 x19),(20,.int .i64 x20)] []) H:=by
 intro n
 induction n with
 | zero=>intros; rfl
 | succ n ih=>
  intros x0 x1 x5 x6 x7 x19 x20 H
  simp only [l1,hL0,l3_eq rec k n0 L0 hL0 n (l1 rec k L0 n) (fun x0 x1 x5 x6 x7 x19 x20 H=>ih x0 x1 x5 x6 x7 x19 x20 H),j4_eq rec k n0 L0 hL0,ih,-eq_self]
  kernel_rfl
theorem l0_eq (rec:Rec) (k:Nat):∀ n x0 x1 x5 x19 x20 H,l0 rec k n x0 x1 x5 x19 x20 H=iter (o.at (lbody (sub body [1,1,1,0,1,0]))) (ex PP o rec k (lbody (sub body [1,1,1,0,1,0]))) (kAt PP o rec k body [1,1,1,0,1,0] [] (K0 PP Go.Proofs.Try.f80)) n (St.of 60 [(0,.sl 1 x0),(1,.int .i64 x1),(5,.sl 1 x5),(19,.int .i64 x19),(20,.int .i64 x20)] []) H:=by
 intro n
 induction n with
 | zero=>intros; rfl
 | succ n ih=>
  intros x0 x1 x5 x19 x20 H
  simp only [l0,l1_eq rec k n (l0 rec k n) (fun x0 x1 x5 x19 x20 H=>ih x0 x1 x5 x19 x20 H),j2_eq rec k,ih,-eq_self]
  kernel_rfl
theorem f_eq (rec:Rec) (k:Nat):∀ a0 a1 H,f rec k a0 a1 H=ex PP o rec k body (St.of 60 [(0,.sl 1 a0),(1,.int .i64 a1)] []) H (K0 PP Go.Proofs.Try.f80):=by
 intros a0 a1 H
 unfold f
 try simp only [l0_eq rec k,-eq_self]
 kernel_rfl
theorem call (k:Nat):∀ a0 a1 H,callF PP orc (k + 1) impl_NarrowHidden.id [.sl 1 a0,.int .i64 a1] H=f (callF PP orc k) k a0 a1 H:=by
 intros a0 a1 H
 rw [callF_at (fn:=Go.Proofs.Try.f80) (c:=body) Go.Proofs.Try.func80 (by kernel_rfl) (Nat.le_of_ble_eq_true (by kernel_rfl)),f_eq]
 kernel_rfl
end impl_NarrowHidden
end Go.Proofs.Ytchliocobgkmbaa.Rp
