/- Texts for the row of the law FnMakeEven, part 7: the plain machine, the program's functions on it, what they come to. No conditions. -/
import Derived.Test.YtchliocobgkmbaaAb
import Derived.Test.YtchliocobgkmbaaOr
set_option linter.unusedVariables false
set_option linter.unusedSimpArgs false
set_option maxRecDepth 100000
namespace Go.Proofs.Ytchliocobgkmbaa.Rp
open Go Go.Proofs.Ytchliocobgkmbaa.Ab
namespace spec_RegionsValid
noncomputable def body:Code:=(Go.Proofs.Try.f110).body.getD .skip
abbrev o:=orc spec_RegionsValid.id
noncomputable def j1 (rec:Rec) (k:Nat) (x0:Sl) (x1:Int) (H:Hp):An:=(rec spec_l1In.id [.int .i64 x1,.int .i64 2,.int .i64 4] H).bind fun r4=>r4.1.toB.bind fun b5=>bif b5 then some (.bool ((x0.len:Int) == (IntKind.i64.wrap (x1 * x1))),r4.2) else some (.bool false,r4.2)
noncomputable def l0 (rec:Rec) (k:Nat):Nat→Sl→Int→Int→Hp→An
 | 0,_,_,_,_=>none
 | n + 1,x0,x1,x5,H=>bif decide (x5 < (x0.len:Int)) then bif decide (0 ≤ (x5:Int)) && decide ((x5:Int) < x0.len) then (ldI .i64 H x0.blk (x0.off + (x5:Int).toNat * 1)).bind fun n1=>(rec spec_l1In.id [.int .i64 n1,.int .i64 0,.int .i64 (IntKind.i64.wrap (x1 - 1))] H).bind fun r2=>r2.1.toB.bind fun b3=>bif !b3 then some (.bool false,r2.2) else (l0 rec k n) x0 x1 (IntKind.i64.wrap (x5 + 1)) r2.2 else none else j1 rec k x0 x1 H
noncomputable def f (rec:Rec) (k:Nat) (a0:Sl) (a1:Int) (H:Hp):An:=l0 rec k k a0 a1 0 H
theorem j1_eq (rec:Rec) (k:Nat):∀ x0 x1 H,j1 rec k x0 x1 H=ex PP o rec k (sub body [1,1]) (St.of 30 [(0,.sl 1 x0),(1,.int .i64 x1)] []) H (kAt PP o rec k body [1,1] [] (K0 PP Go.Proofs.Try.f110)):=by
 intros x0 x1 H
 unfold j1
 kernel_rfl
theorem l0_eq (rec:Rec) (k:Nat):∀ n x0 x1 x5 H,l0 rec k n x0 x1 x5 H=iter (o.at (lbody (sub body [1,0,1,0]))) (ex PP o rec k (lbody (sub body [1,0,1,0]))) (kAt PP o rec k body [1,0,1,0] [] (K0 PP Go.Proofs.Try.f110)) n (St.of 30 [(0,.sl 1 x0),(1,.int .i64 x1),(5,.int .i64 x5)] []) H:=by
 intro n
 induction n with
 | zero=>intros; rfl
 | succ n ih=>
  intros x0 x1 x5 H
  simp only [l0,j1_eq rec k,ih,-eq_self]
  kernel_rfl
theorem f_eq (rec:Rec) (k:Nat):∀ a0 a1 H,f rec k a0 a1 H=ex PP o rec k body (St.of 30 [(0,.sl 1 a0),(1,.int .i64 a1)] []) H (K0 PP Go.Proofs.Try.f110):=by
 intros a0 a1 H
 unfold f
 try simp only [l0_eq rec k,-eq_self]
 kernel_rfl
theorem call (k:Nat):∀ a0 a1 H,callF PP orc (k + 1) spec_RegionsValid.id [.sl 1 a0,.int .i64 a1] H=f (callF PP orc k) k a0 a1 H:=by
 intros a0 a1 H
 rw [callF_at (fn:=Go.Proofs.Try.f110) (c:=body) Go.Proofs.Try.func110 (by kernel_rfl) (Nat.le_of_ble_eq_true (by kernel_rfl)),f_eq]
 kernel_rfl
end spec_RegionsValid
namespace spec_RegionCells
noncomputable def body:Code:=(Go.Proofs.Try.f111).body.getD .skip
abbrev o:=orc spec_RegionCells.id
abbrev TL0:=Sl→Int→Int→Sl→Int→Hp→An
abbrev PhL0 (rec:Rec) (k n0:Nat) (L0:TL0):Prop:=∀ x0 x1 x2 x7 x8 H,L0 x0 x1 x2 x7 x8 H=iter (o.at (lbody (sub body [1,1,0,1,0]))) (ex PP o rec k (lbody (sub body [1,1,0,1,0]))) (kAt PP o rec k body [1,1,0,1,0] [] (K0 PP Go.Proofs.Try.f111)) n0 (St.of 32 [(0,.sl 1 x0),(1,.int .i64 x1),(2,.int .i64 x2),(7,.sl 1 x7),(8,.int .i64 x8)] []) H
noncomputable def j3 (rec:Rec) (k:Nat) (x7:Sl) (H:Hp):An:=some (.sl 1 x7,H)
noncomputable def j4 (rec:Rec) (k:Nat) (L0:TL0) (x0:Sl) (x1:Int) (x2:Int) (x7:Sl) (x8:Int) (H:Hp):An:=L0 x0 x1 x2 x7 (IntKind.i64.wrap (x8 + 1)) H
noncomputable def j2 (rec:Rec) (k:Nat) (L0:TL0) (x0:Sl) (x1:Int) (x2:Int) (x7:Sl) (x8:Int) (H:Hp):An:=bif decide (0 ≤ (x8:Int)) && decide ((x8:Int) < x0.len) then (ldI .i64 H x0.blk (x0.off + (x8:Int).toNat * 1)).bind fun n3=>bif n3 == x2 then (H.app 1 x7 1 [.int .i64 x8]).bind fun w4=>j4 rec k L0 x0 x1 x2 w4.1 x8 w4.2 else j4 rec k L0 x0 x1 x2 x7 x8 H else none
noncomputable def j1 (rec:Rec) (k:Nat) (L0:TL0) (x0:Sl) (x1:Int) (x2:Int) (x7:Sl) (x8:Int) (x18:Bool) (H:Hp):An:=bif x18 then j2 rec k L0 x0 x1 x2 x7 x8 H else j3 rec k x7 H
noncomputable def l0 (rec:Rec) (k:Nat):Nat→Sl→Int→Int→Sl→Int→Hp→An
 | 0,_,_,_,_,_,_=>none
 | n + 1,x0,x1,x2,x7,x8,H=>bif decide (x8 < (x0.len:Int)) then (rec spec_RegionsValid.id [.sl 1 x0,.int .i64 x1] H).bind fun r1=>r1.1.toB.bind fun b2=>j1 rec k (l0 rec k n) x0 x1 x2 x7 x8 b2 r1.2 else j1 rec k (l0 rec k n) x0 x1 x2 x7 x8 false H
noncomputable def f (rec:Rec) (k:Nat) (a0:Sl) (a1:Int) (a2:Int) (H:Hp):An:=l0 rec k k a0 a1 a2 (Sl.mk false H.length 0 0) 0 (H ++ [some (Blk.mk false [])])
theorem j3_eq (rec:Rec) (k:Nat):∀ x7 H,j3 rec k x7 H=ex PP o rec k (sub body [1,1,1]) (St.of 32 [(7,.sl 1 x7)] []) H (kAt PP o rec k body [1,1,1] [] (K0 PP Go.Proofs.Try.f111)):=by
 intros x7 H
 unfold j3
 kernel_rfl
theorem j4_eq (rec:Rec) (k:Nat) (n0:Nat) (L0:TL0) (hL0:PhL0 rec k n0 L0):∀ x0 x1 x2 x7 x8 H,j4 rec k L0 x0 x1 x2 x7 x8 H=ex PP o rec k (sub body [1,1,0,1,0,0,1,1]) (St.of 32 [(0,.sl 1 x0),(1,.int .i64 x1),(2,.int .i64 x2),(7,.sl 1 x7),(8,.int .i64 x8)] []) H (kAt PP o rec k body [1,1,0,1,0,0,1,1] [n0] (K0 PP Go.Proofs.Try.f111)):=by
 intros x0 x1 x2 x7 x8 H
 unfold j4
 try simp only [hL0,-eq_self]
 kernel_rfl
theorem j2_eq (rec:Rec) (k:Nat) (n0:Nat) (L0:TL0) (hL0:PhL0 rec k n0 L0):∀ x0 x1 x2 x7 x8 H,j2 rec k L0 x0 x1 x2 x7 x8 H=ex PP o rec k (sub body [1,1,0,1,0,0,1]) (St.of 32 [(0,.sl 1 x0),(1,.int .i64 x1),(2,.int .i64 x2),(7,.sl 1 x7),(8,.int .i64 x8)] []) H (kAt PP o rec k body [1,1,0,1,0,0,1] [n0] (K0 PP Go.Proofs.Try.f111)):=by
 intros x0 x1 x2 x7 x8 H
 unfold j2
 try simp only [hL0,j4_eq rec k n0 L0 hL0,-eq_self]
 kernel_rfl
theorem j1_eq (rec:Rec) (k:Nat) (n0:Nat) (L0:TL0) (hL0:PhL0 rec k n0 L0):∀ x0 x1 x2 x7 x8 x18 H,j1 rec k L0 x0 x1 x2 x7 x8 x18 H=ex PP o rec k (sub body [1,1,0,1,0,0,0,1]) (St.of 32 [(0,.sl 1 x0),(1,.int .i64 x1),(2,.int .i64 x2),(7,.sl 1 x7),(8,.int .i64 x8),(18,.bool x18)] []) H (kAt PP o rec k body [1,1,0,1,0,0,0,1] [n0] (K0 PP Go.Proofs.Try.f111)):=by
 intros x0 x1 x2 x7 x8 x18 H
 unfold j1
 try simp only [hL0,j2_eq rec k n0 L0 hL0,j3_eq rec k,-eq_self]
 kernel_rfl
theorem l0_eq (rec:Rec) (k:Nat):∀ n x0 x1 x2 x7 x8 H,l0 rec k n x0 x1 x2 x7 x8 H=iter (o.at (lbody (sub body [1,1,0,1,0]))) (ex PP o rec k (lbody (sub body [1,1,0,1,0]))) (kAt PP o rec k body [1,1,0,1,0] [] (K0 PP Go.Proofs.Try.f111)) n (St.of 32 [(0,.sl 1 x0),(1,.int .i64 x1),(2,.int .i64 x2),(7,.sl 1 x7),(8,.int .i64 x8)] []) H:=by
 intro n
 induction n with
 | zero=>intros; rfl
 | succ n ih=>
  intros x0 x1 x2 x7 x8 H
  simp only [l0,j1_eq rec k n (l0 rec k n) (fun x0 x1 x2 x7 x8 H=>ih x0 x1 x2 x7 x8 H),ih,-eq_self]
  kernel_rfl
theorem f_eq (rec:Rec) (k:Nat):∀ a0 a1 a2 H,f rec k a0 a1 a2 H=ex PP o rec k body (St.of 32 [(0,.sl 1 a0),(1,.int .i64 a1),(2,.int .i64 a2)] []) H (K0 PP Go.Proofs.Try.f111):=by
 intros a0 a1 a2 H
 unfold f
 try simp only [l0_eq rec k,-eq_self]
 kernel_rfl
theorem call (k:Nat):∀ a0 a1 a2 H,callF PP orc (k + 1) spec_RegionCells.id [.sl 1 a0,.int .i64 a1,.int .i64 a2] H=f (callF PP orc k) k a0 a1 a2 H:=by
 intros a0 a1 a2 H
 rw [callF_at (fn:=Go.Proofs.Try.f111) (c:=body) Go.Proofs.Try.func111 (by kernel_rfl) (Nat.le_of_ble_eq_true (by kernel_rfl)),f_eq]
 kernel_rfl
end spec_RegionCells
namespace spec_BoxRegions
noncomputable def body:Code:=(Go.Proofs.Try.f90).body.getD .skip
abbrev o:=orc spec_BoxRegions.id
noncomputable def j1 (rec:Rec) (k:Nat) (x1:Sl) (H:Hp):An:=some (.sl 1 x1,H)
noncomputable def l0 (rec:Rec) (k:Nat):Nat→Sl→Int→Hp→An
 | 0,_,_,_=>none
 | n + 1,x1,x2,H=>bif decide (x2 < 16) then (H.app 1 x1 1 [.int .i64 (IntKind.i64.wrap ((IntKind.i64.wrap ((IntKind.i64.wrap ((x2:Int).tdiv 8)) * 2)) + (IntKind.i64.wrap (((x2:Int).tmod 4:Int).tdiv 2))))]).bind fun w1=>(l0 rec k n) w1.1 (IntKind.i64.wrap (x2 + 1)) w1.2 else j1 rec k x1 H
noncomputable def f (rec:Rec) (k:Nat) (H:Hp):An:=l0 rec k k (Sl.mk false H.length 0 0) 0 (H ++ [some (Blk.mk false [])])
theorem j1_eq (rec:Rec) (k:Nat):∀ x1 H,j1 rec k x1 H=ex PP o rec k (sub body [1,1,1]) (St.of 19 [(1,.sl 1 x1)] []) H (kAt PP o rec k body [1,1,1] [] (K0 PP Go.Proofs.Try.f90)):=by
 intros x1 H
 unfold j1
 kernel_rfl
theorem l0_eq (rec:Rec) (k:Nat):∀ n x1 x2 H,l0 rec k n x1 x2 H=iter (o.at (lbody (sub body [1,1,0,1,0]))) (ex PP o rec k (lbody (sub body [1,1,0,1,0]))) (kAt PP o rec k body [1,1,0,1,0] [] (K0 PP Go.Proofs.Try.f90)) n (St.of 19 [(1,.sl 1 x1),(2,.int .i64 x2)] []) H:=by
 intro n
 induction n with
 | zero=>intros; rfl
 | succ n ih=>
  intros x1 x2 H
  simp only [l0,j1_eq rec k,ih,-eq_self]
  kernel_rfl
theorem f_eq (rec:Rec) (k:Nat):∀ H,f rec k H=ex PP o rec k body (St.of 19 [] []) H (K0 PP Go.Proofs.Try.f90):=by
 intros H
 unfold f
 try simp only [l0_eq rec k,-eq_self]
 kernel_rfl
theorem call (k:Nat):∀ H,callF PP orc (k + 1) spec_BoxRegions.id [] H=f (callF PP orc k) k H:=by
 intros H
 rw [callF_at (fn:=Go.Proofs.Try.f90) (c:=body) Go.Proofs.Try.func90 (by kernel_rfl) (Nat.le_of_ble_eq_true (by kernel_rfl)),f_eq]
 kernel_rfl
end spec_BoxRegions
namespace spec_RegionRules
noncomputable def body:Code:=(Go.Proofs.Try.f89).body.getD .skip
abbrev o:=orc spec_RegionRules.id
noncomputable def j1 (rec:Rec) (k:Nat) (L0:Sl→Int→Sl→Int→Hp→An) (x0:Sl) (x1:Int) (x6:Sl) (x7:Int) (H:Hp):An:=L0 x0 x1 x6 (IntKind.i64.wrap (x7 + 1)) H
noncomputable def j2 (rec:Rec) (k:Nat) (x6:Sl) (H:Hp):An:=some (.tup [.sl 3 x6,.bool true],H)
noncomputable def l0 (rec:Rec) (k:Nat):Nat→Sl→Int→Sl→Int→Hp→An
 | 0,_,_,_,_,_=>none
 | n + 1,x0,x1,x6,x7,H=>bif decide (x7 < x1) then (rec spec_RegionCells.id [.sl 1 x0,.int .i64 x1,.int .i64 x7] H).bind fun r3=>(r3.1.toS 1).bind fun s4=>bif decide ((s4.len:Int) > 4) then some (.tup [.sl 3 (Sl.mk false r3.2.length 0 0),.bool false],r3.2 ++ [some (Blk.mk false [])]) else bif decide ((s4.len:Int) ≥ 2) then (r3.2.app 3 x6 1 [.int .i64 1,.sl 1 s4,.int .i64 0]).bind fun w5=>j1 rec k (l0 rec k n) x0 x1 w5.1 x7 w5.2 else j1 rec k (l0 rec k n) x0 x1 x6 x7 r3.2 else j2 rec k x6 H
noncomputable def f (rec:Rec) (k:Nat) (a0:Sl) (a1:Int) (H:Hp):An:=(rec spec_RegionsValid.id [.sl 1 a0,.int .i64 a1] (H ++ [some (Blk.mk false [])])).bind fun r1=>r1.1.toB.bind fun b2=>bif !b2 then some (.tup [.sl 3 (Sl.mk false H.length 0 0),.bool false],r1.2) else l0 rec k k a0 a1 (Sl.mk false H.length 0 0) 0 r1.2
theorem j1_eq (rec:Rec) (k:Nat) (n0:Nat) (L0:Sl→Int→Sl→Int→Hp→An) (hL0:∀ x0 x1 x6 x7 H,L0 x0 x1 x6 x7 H=iter (o.at (lbody (sub body [1,1,1,0,1,0]))) (ex PP o rec k (lbody (sub body [1,1,1,0,1,0]))) (kAt PP o rec k body [1,1,1,0,1,0] [] (K0 PP Go.Proofs.Try.f89)) n0 (St.of 37 [(0,.sl 1 x0),(1,.int .i64 x1),(6,.sl 3 x6),(7,.int .i64 x7)] []) H):∀ x0 x1 x6 x7 H,j1 rec k L0 x0 x1 x6 x7 H=ex PP o rec k (sub body [1,1,1,0,1,0,0,1,1]) (St.of 37 [(0,.sl 1 x0),(1,.int .i64 x1),(6,.sl 3 x6),(7,.int .i64 x7)] []) H (kAt PP o rec k body [1,1,1,0,1,0,0,1,1] [n0] (K0 PP Go.Proofs.Try.f89)):=by
 intros x0 x1 x6 x7 H
 unfold j1
 try simp only [hL0,-eq_self]
 kernel_rfl
theorem j2_eq (rec:Rec) (k:Nat):∀ x6 H,j2 rec k x6 H=ex PP o rec k (sub body [1,1,1,1]) (St.of 37 [(6,.sl 3 x6)] []) H (kAt PP o rec k body [1,1,1,1] [] (K0 PP Go.Proofs.Try.f89)):=by
 intros x6 H
 unfold j2
 kernel_rfl
theorem l0_eq (rec:Rec) (k:Nat):∀ n x0 x1 x6 x7 H,l0 rec k n x0 x1 x6 x7 H=iter (o.at (lbody (sub body [1,1,1,0,1,0]))) (ex PP o rec k (lbody (sub body [1,1,1,0,1,0]))) (kAt PP o rec k body [1,1,1,0,1,0] [] (K0 PP Go.Proofs.Try.f89)) n (St.of 37 [(0,.sl 1 x0),(1,.int .i64 x1),(6,.sl 3 x6),(7,.int .i64 x7)] []) H:=by
 intro n
 induction n with
 | zero=>intros; rfl
 | succ n ih=>
  intros x0 x1 x6 x7 H
  simp only [l0,j1_eq rec k n (l0 rec k n) (fun x0 x1 x6 x7 H=>ih x0 x1 x6 x7 H),j2_eq rec k,ih,-eq_self]
  kernel_rfl
theorem f_eq (rec:Rec) (k:Nat):∀ a0 a1 H,f rec k a0 a1 H=ex PP o rec k body (St.of 37 [(0,.sl 1 a0),(1,.int .i64 a1)] []) H (K0 PP Go.Proofs.Try.f89):=by
 intros a0 a1 H
 unfold f
 try simp only [l0_eq rec k,-eq_self]
 kernel_rfl
theorem call (k:Nat):∀ a0 a1 H,callF PP orc (k + 1) spec_RegionRules.id [.sl 1 a0,.int .i64 a1] H=f (callF PP orc k) k a0 a1 H:=by
 intros a0 a1 H
 rw [callF_at (fn:=Go.Proofs.Try.f89) (c:=body) Go.Proofs.Try.func89 (by kernel_rfl) (Nat.le_of_ble_eq_true (by kernel_rfl)),f_eq]
 kernel_rfl
end spec_RegionRules
end Go.Proofs.Ytchliocobgkmbaa.Rp
