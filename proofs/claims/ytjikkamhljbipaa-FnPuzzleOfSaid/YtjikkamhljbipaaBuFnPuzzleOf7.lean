/- Texts for the row of the law FnPuzzleOf, part 7: the plain machine, the program's functions on it, what they come to. No conditions. -/
import Derived.Test.YtjikkamhljbipaaAb
import Derived.Test.YtjikkamhljbipaaOr
set_option linter.unusedVariables false
set_option linter.unusedSimpArgs false
set_option maxRecDepth 100000
namespace Go.Proofs.Ytjikkamhljbipaa.Rp
open Go Go.Proofs.Ytjikkamhljbipaa.Ab
namespace impl_StartMasks
noncomputable def body:Code:=(Go.Proofs.Try.f40).body.getD .skip
abbrev o:=orc impl_StartMasks.id
noncomputable def j1 (rec:Rec) (k:Nat) (L0:Sl→Sl→Int→Int→Int→Sl→Sl→Hp→An) (x3:Sl) (x14:Sl) (x15:Int) (x16:Int) (y1_0:Int) (y1_1:Sl) (y1_2:Sl) (H:Hp):An:=L0 x3 x14 x15 (IntKind.i64.wrap (x16 + 1)) y1_0 y1_1 y1_2 H
noncomputable def j2 (rec:Rec) (k:Nat) (x3:Sl) (H:Hp):An:=some (.sl 1 x3,H)
noncomputable def l0 (rec:Rec) (k:Nat):Nat→Sl→Sl→Int→Int→Int→Sl→Sl→Hp→An
 | 0,_,_,_,_,_,_,_,_=>none
 | n + 1,x3,x14,x15,x16,y1_0,y1_1,y1_2,H=>bif decide (x16 < x15) then bif decide (0 ≤ (x16:Int)) && decide ((x16:Int) < x14.len) then (ldI .i64 H x14.blk (x14.off + (x16:Int).toNat * 1)).bind fun n3=>(rec impl_allValues.id [.int .i64 y1_0] H).bind fun r4=>(r4.1.toI .i64).bind fun n5=>bif decide (0 ≤ (x16:Int)) && decide ((x16:Int) < x3.len) then (r4.2.sto x3.blk (x3.off + (x16:Int).toNat * 1) [.int .i64 n5]).bind fun H6=>bif decide (n3 > 0) then if (n3:Int) < 0 then none else bif decide (0 ≤ (x16:Int)) && decide ((x16:Int) < x3.len) then (H6.sto x3.blk (x3.off + (x16:Int).toNat * 1) [.int .i64 (IntKind.i64.wrap (1 * 2 ^ (min (n3:Int).toNat IntKind.i64.bits)))]).bind fun H7=>j1 rec k (l0 rec k n) x3 x14 x15 x16 y1_0 y1_1 y1_2 H7 else none else j1 rec k (l0 rec k n) x3 x14 x15 x16 y1_0 y1_1 y1_2 H6 else none else none else j2 rec k x3 H
noncomputable def f (rec:Rec) (k:Nat) (a0_0:Int) (a0_1:Sl) (a0_2:Sl) (H:Hp):An:=(rec impl_PuzzleValid.id [.agg [.int .i64 a0_0,.sl 1 a0_1,.sl 3 a0_2]] H).bind fun r1=>r1.1.toB.bind fun b2=>bif !b2 then some (.sl 1 Sl.none,r1.2) else if 0 ≤ ((a0_1.len:Int):Int)∧((a0_1.len:Int):Int) ≤ (a0_1.len:Int)∧((a0_1.len:Int):Int) ≤ 1073741824∧8 ≤ 8192∧0 < 1 then l0 rec k k (Sl.mk false r1.2.length 0 ((a0_1.len:Int):Int).toNat) a0_1 (a0_1.len:Int) 0 a0_0 a0_1 a0_2 (r1.2 ++ [some (Blk.mk false (List.replicate ((a0_1.len:Int):Int).toNat [.int .i64 0]).flatten)]) else none
theorem j1_eq (rec:Rec) (k:Nat) (n0:Nat) (L0:Sl→Sl→Int→Int→Int→Sl→Sl→Hp→An) (hL0:∀ x3 x14 x15 x16 y1_0 y1_1 y1_2 H,L0 x3 x14 x15 x16 y1_0 y1_1 y1_2 H=iter (o.at (lbody (sub body [1,1,1,0,1,0]))) (ex PP o rec k (lbody (sub body [1,1,1,0,1,0]))) (kAt PP o rec k body [1,1,1,0,1,0] [] (K0 PP Go.Proofs.Try.f40)) n0 (St.of 36 [(1,.lp 1 0),(3,.sl 1 x3),(14,.sl 1 x14),(15,.int .i64 x15),(16,.int .i64 x16)] [(1,[.int .i64 y1_0,.sl 1 y1_1,.sl 3 y1_2])]) H):∀ x3 x14 x15 x16 y1_0 y1_1 y1_2 H,j1 rec k L0 x3 x14 x15 x16 y1_0 y1_1 y1_2 H=ex PP o rec k (sub body [1,1,1,0,1,0,0,1,1,1]) (St.of 36 [(1,.lp 1 0),(3,.sl 1 x3),(14,.sl 1 x14),(15,.int .i64 x15),(16,.int .i64 x16)] [(1,[.int .i64 y1_0,.sl 1 y1_1,.sl 3 y1_2])]) H (kAt PP o rec k body [1,1,1,0,1,0,0,1,1,1] [n0] (K0 PP Go.Proofs.Try.f40)):=by
 intros x3 x14 x15 x16 y1_0 y1_1 y1_2 H
 unfold j1
 try simp only [hL0,-eq_self]
 kernel_rfl
theorem j2_eq (rec:Rec) (k:Nat):∀ x3 H,j2 rec k x3 H=ex PP o rec k (sub body [1,1,1,1]) (St.of 36 [(3,.sl 1 x3)] []) H (kAt PP o rec k body [1,1,1,1] [] (K0 PP Go.Proofs.Try.f40)):=by
 intros x3 H
 unfold j2
 kernel_rfl
theorem l0_eq (rec:Rec) (k:Nat):∀ n x3 x14 x15 x16 y1_0 y1_1 y1_2 H,l0 rec k n x3 x14 x15 x16 y1_0 y1_1 y1_2 H=iter (o.at (lbody (sub body [1,1,1,0,1,0]))) (ex PP o rec k (lbody (sub body [1,1,1,0,1,0]))) (kAt PP o rec k body [1,1,1,0,1,0] [] (K0 PP Go.Proofs.Try.f40)) n (St.of 36 [(1,.lp 1 0),(3,.sl 1 x3),(14,.sl 1 x14),(15,.int .i64 x15),(16,.int .i64 x16)] [(1,[.int .i64 y1_0,.sl 1 y1_1,.sl 3 y1_2])]) H:=by
 intro n
 induction n with
 | zero=>intros; rfl
 | succ n ih=>
  intros x3 x14 x15 x16 y1_0 y1_1 y1_2 H
  simp only [l0,j1_eq rec k n (l0 rec k n) (fun x3 x14 x15 x16 y1_0 y1_1 y1_2 H=>ih x3 x14 x15 x16 y1_0 y1_1 y1_2 H),j2_eq rec k,ih,-eq_self]
  kernel_rfl
theorem f_eq (rec:Rec) (k:Nat):∀ a0_0 a0_1 a0_2 H,f rec k a0_0 a0_1 a0_2 H=ex PP o rec k body (St.of 36 [(0,.agg [.int .i64 a0_0,.sl 1 a0_1,.sl 3 a0_2])] []) H (K0 PP Go.Proofs.Try.f40):=by
 intros a0_0 a0_1 a0_2 H
 unfold f
 try simp only [l0_eq rec k,-eq_self]
 kernel_rfl
theorem call (k:Nat):∀ a0_0 a0_1 a0_2 H,callF PP orc (k + 1) impl_StartMasks.id [.agg [.int .i64 a0_0,.sl 1 a0_1,.sl 3 a0_2]] H=f (callF PP orc k) k a0_0 a0_1 a0_2 H:=by
 intros a0_0 a0_1 a0_2 H
 rw [callF_at (fn:=Go.Proofs.Try.f40) (c:=body) Go.Proofs.Try.func40 (by kernel_rfl) (Nat.le_of_ble_eq_true (by kernel_rfl)),f_eq]
 kernel_rfl
end impl_StartMasks
namespace impl_MasksGrid
noncomputable def body:Code:=(Go.Proofs.Try.f81).body.getD .skip
abbrev o:=orc impl_MasksGrid.id
noncomputable def j1 (rec:Rec) (k:Nat) (x5:Sl) (H:Hp):An:=some (.sl 1 x5,H)
noncomputable def l0 (rec:Rec) (k:Nat):Nat→Sl→Sl→Int→Int→Hp→An
 | 0,_,_,_,_,_=>none
 | n + 1,x5,x15,x16,x17,H=>bif decide (x17 < x16) then bif decide (0 ≤ (x17:Int)) && decide ((x17:Int) < x15.len) then (ldI .i64 H x15.blk (x15.off + (x17:Int).toNat * 1)).bind fun n3=>(rec impl_onlyValue.id [.int .i64 n3] H).bind fun r4=>(r4.1.toI .i64).bind fun n5=>bif decide (0 ≤ (x17:Int)) && decide ((x17:Int) < x5.len) then (r4.2.sto x5.blk (x5.off + (x17:Int).toNat * 1) [.int .i64 n5]).bind fun H6=>(l0 rec k n) x5 x15 x16 (IntKind.i64.wrap (x17 + 1)) H6 else none else none else j1 rec k x5 H
noncomputable def f (rec:Rec) (k:Nat) (a0:Sl) (a1:Int) (H:Hp):An:=(rec impl_MasksValid.id [.sl 1 a0,.int .i64 a1] H).bind fun r1=>r1.1.toB.bind fun b2=>bif !b2 then some (.sl 1 Sl.none,r1.2) else if 0 ≤ ((a0.len:Int):Int)∧((a0.len:Int):Int) ≤ (a0.len:Int)∧((a0.len:Int):Int) ≤ 1073741824∧8 ≤ 8192∧0 < 1 then l0 rec k k (Sl.mk false r1.2.length 0 ((a0.len:Int):Int).toNat) a0 (a0.len:Int) 0 (r1.2 ++ [some (Blk.mk false (List.replicate ((a0.len:Int):Int).toNat [.int .i64 0]).flatten)]) else none
theorem j1_eq (rec:Rec) (k:Nat):∀ x5 H,j1 rec k x5 H=ex PP o rec k (sub body [1,1,1,1]) (St.of 29 [(5,.sl 1 x5)] []) H (kAt PP o rec k body [1,1,1,1] [] (K0 PP Go.Proofs.Try.f81)):=by
 intros x5 H
 unfold j1
 kernel_rfl
theorem l0_eq (rec:Rec) (k:Nat):∀ n x5 x15 x16 x17 H,l0 rec k n x5 x15 x16 x17 H=iter (o.at (lbody (sub body [1,1,1,0,1,0]))) (ex PP o rec k (lbody (sub body [1,1,1,0,1,0]))) (kAt PP o rec k body [1,1,1,0,1,0] [] (K0 PP Go.Proofs.Try.f81)) n (St.of 29 [(5,.sl 1 x5),(15,.sl 1 x15),(16,.int .i64 x16),(17,.int .i64 x17)] []) H:=by
 intro n
 induction n with
 | zero=>intros; rfl
 | succ n ih=>
  intros x5 x15 x16 x17 H
  simp only [l0,j1_eq rec k,ih,-eq_self]
  kernel_rfl
theorem f_eq (rec:Rec) (k:Nat):∀ a0 a1 H,f rec k a0 a1 H=ex PP o rec k body (St.of 29 [(0,.sl 1 a0),(1,.int .i64 a1)] []) H (K0 PP Go.Proofs.Try.f81):=by
 intros a0 a1 H
 unfold f
 try simp only [l0_eq rec k,-eq_self]
 kernel_rfl
theorem call (k:Nat):∀ a0 a1 H,callF PP orc (k + 1) impl_MasksGrid.id [.sl 1 a0,.int .i64 a1] H=f (callF PP orc k) k a0 a1 H:=by
 intros a0 a1 H
 rw [callF_at (fn:=Go.Proofs.Try.f81) (c:=body) Go.Proofs.Try.func81 (by kernel_rfl) (Nat.le_of_ble_eq_true (by kernel_rfl)),f_eq]
 kernel_rfl
end impl_MasksGrid
namespace impl_NarrowSingles
noncomputable def body:Code:=(Go.Proofs.Try.f113).body.getD .skip
abbrev o:=orc impl_NarrowSingles.id
abbrev TL0:=Int→Sl→Sl→Int→Int→Hp→An
abbrev TL2:=Int→Sl→Int→Int→Sl→Int→Int→Int→Int→Hp→An
abbrev PhL0 (rec:Rec) (k n0:Nat) (L0:TL0):Prop:=∀ x1 x5 x17 x18 x19 H,L0 x1 x5 x17 x18 x19 H=iter (o.at (lbody (sub body [1,1,1,0,1,0]))) (ex PP o rec k (lbody (sub body [1,1,1,0,1,0]))) (kAt PP o rec k body [1,1,1,0,1,0] [] (K0 PP Go.Proofs.Try.f113)) n0 (St.of 65 [(1,.int .i64 x1),(5,.sl 1 x5),(17,.sl 1 x17),(18,.int .i64 x18),(19,.int .i64 x19)] []) H
abbrev PhL2 (rec:Rec) (k n0 n2:Nat) (L2:TL2):Prop:=∀ x1 x5 x6 x7 x17 x18 x19 x27 x28 H,L2 x1 x5 x6 x7 x17 x18 x19 x27 x28 H=iter (o.at (lbody (sub body [1,1,1,0,1,0,0,1,1,0,0,1,1,1,0]))) (ex PP o rec k (lbody (sub body [1,1,1,0,1,0,0,1,1,0,0,1,1,1,0]))) (kAt PP o rec k body [1,1,1,0,1,0,0,1,1,0,0,1,1,1,0] [n0] (K0 PP Go.Proofs.Try.f113)) n2 (St.of 65 [(1,.int .i64 x1),(5,.sl 1 x5),(6,.int .i64 x6),(7,.int .i64 x7),(17,.sl 1 x17),(18,.int .i64 x18),(19,.int .i64 x19),(27,.int .i64 x27),(28,.int .i64 x28)] []) H
noncomputable def j1 (rec:Rec) (k:Nat) (L0:TL0) (x1:Int) (x5:Sl) (x17:Sl) (x18:Int) (x19:Int) (H:Hp):An:=L0 x1 x5 x17 x18 (IntKind.i64.wrap (x19 + 1)) H
noncomputable def j3 (rec:Rec) (k:Nat) (x5:Sl) (H:Hp):An:=some (.sl 1 x5,H)
noncomputable def j5 (rec:Rec) (k:Nat) (L0:TL0) (L2:TL2) (L4:Int→Sl→Int→Int→Sl→Int→Int→Int→Int→Sl→Int→Int→Hp→An) (x1:Int) (x5:Sl) (x6:Int) (x7:Int) (x17:Sl) (x18:Int) (x19:Int) (x27:Int) (x28:Int) (x45:Sl) (x46:Int) (x47:Int) (H:Hp):An:=L4 x1 x5 x6 x7 x17 x18 x19 x27 x28 x45 x46 (IntKind.i64.wrap (x47 + 1)) H
noncomputable def j6 (rec:Rec) (k:Nat) (L0:TL0) (L2:TL2) (x1:Int) (x5:Sl) (x6:Int) (x7:Int) (x17:Sl) (x18:Int) (x19:Int) (x27:Int) (x28:Int) (H:Hp):An:=L2 x1 x5 x6 x7 x17 x18 x19 x27 (IntKind.i64.wrap (x28 + 1)) H
noncomputable def l4 (rec:Rec) (k:Nat) (L0:TL0) (L2:TL2):Nat→Int→Sl→Int→Int→Sl→Int→Int→Int→Int→Sl→Int→Int→Hp→An
 | 0,_,_,_,_,_,_,_,_,_,_,_,_,_=>none
 | n + 1,x1,x5,x6,x7,x17,x18,x19,x27,x28,x45,x46,x47,H=>bif decide (x47 < x46) then bif decide (0 ≤ (x47:Int)) && decide ((x47:Int) < x45.len) then (ldI .i64 H x45.blk (x45.off + (x47:Int).toNat * 1)).bind fun n8=>bif n8 != x6 then bif decide (0 ≤ (n8:Int)) && decide ((n8:Int) < x5.len) then (ldI .i64 H x5.blk (x5.off + (n8:Int).toNat * 1)).bind fun n9=>bif decide (0 ≤ (n8:Int)) && decide ((n8:Int) < x5.len) then (H.sto x5.blk (x5.off + (n8:Int).toNat * 1) [.int .i64 (IntKind.i64.wrap (((BitVec.ofInt IntKind.i64.bits n9 &&& ~~~ (BitVec.ofInt IntKind.i64.bits x7)).toNat:Int)))]).bind fun H10=>j5 rec k L0 L2 (l4 rec k L0 L2 n) x1 x5 x6 x7 x17 x18 x19 x27 x28 x45 x46 x47 H10 else none else none else j5 rec k L0 L2 (l4 rec k L0 L2 n) x1 x5 x6 x7 x17 x18 x19 x27 x28 x45 x46 x47 H else none else j6 rec k L0 L2 x1 x5 x6 x7 x17 x18 x19 x27 x28 H
noncomputable def l2 (rec:Rec) (k:Nat) (L0:TL0):Nat→Int→Sl→Int→Int→Sl→Int→Int→Int→Int→Hp→An
 | 0,_,_,_,_,_,_,_,_,_,_=>none
 | n + 1,x1,x5,x6,x7,x17,x18,x19,x27,x28,H=>bif decide (x28 < x27) then if (x1:Int)=0 then none else if (x1:Int)=0 then none else l4 rec k L0 (l2 rec k L0 n) k x1 x5 x6 x7 x17 x18 x19 x27 x28 (Sl.mk false H.length 0 2) ((Sl.mk false H.length 0 2).len:Int) 0 (H ++ [some (Blk.mk false [.int .i64 (IntKind.i64.wrap ((IntKind.i64.wrap ((IntKind.i64.wrap ((x6:Int).tdiv x1)) * x1)) + x28)),.int .i64 (IntKind.i64.wrap ((IntKind.i64.wrap (x28 * x1)) + ((x6:Int).tmod x1)))])]) else j1 rec k L0 x1 x5 x17 x18 x19 H
noncomputable def l0 (rec:Rec) (k:Nat):Nat→Int→Sl→Sl→Int→Int→Hp→An
 | 0,_,_,_,_,_,_=>none
 | n + 1,x1,x5,x17,x18,x19,H=>bif decide (x19 < x18) then bif decide (0 ≤ (x19:Int)) && decide ((x19:Int) < x17.len) then (ldI .i64 H x17.blk (x17.off + (x19:Int).toNat * 1)).bind fun n5=>(rec impl_onlyValue.id [.int .i64 n5] H).bind fun r6=>(r6.1.toI .i64).bind fun n7=>bif n7 == 0 then j1 rec k (l0 rec k n) x1 x5 x17 x18 x19 r6.2 else l2 rec k (l0 rec k n) k x1 x5 x19 n5 x17 x18 x19 x1 0 r6.2 else none else j3 rec k x5 H
noncomputable def f (rec:Rec) (k:Nat) (a0:Sl) (a1:Int) (H:Hp):An:=(rec impl_MasksValid.id [.sl 1 a0,.int .i64 a1] H).bind fun r1=>r1.1.toB.bind fun b2=>bif !b2 then some (.sl 1 Sl.none,r1.2) else (rec slices_Clone_int.id [.sl 1 a0] r1.2).bind fun r3=>(r3.1.toS 1).bind fun s4=>l0 rec k k a1 s4 a0 (a0.len:Int) 0 r3.2
theorem j1_eq (rec:Rec) (k:Nat) (n0:Nat) (L0:TL0) (hL0:PhL0 rec k n0 L0):∀ x1 x5 x17 x18 x19 H,j1 rec k L0 x1 x5 x17 x18 x19 H=ex PP o rec k (sub body [1,1,1,0,1,0,0,1,1,1]) (St.of 65 [(1,.int .i64 x1),(5,.sl 1 x5),(17,.sl 1 x17),(18,.int .i64 x18),(19,.int .i64 x19)] []) H (kAt PP o rec k body [1,1,1,0,1,0,0,1,1,1] [n0] (K0 PP Go.Proofs.Try.f113)):=by
 intros x1 x5 x17 x18 x19 H
 unfold j1
 try simp only [hL0,-eq_self]
 kernel_rfl
theorem j3_eq (rec:Rec) (k:Nat):∀ x5 H,j3 rec k x5 H=ex PP o rec k (sub body [1,1,1,1]) (St.of 65 [(5,.sl 1 x5)] []) H (kAt PP o rec k body [1,1,1,1] [] (K0 PP Go.Proofs.Try.f113)):=by
 intros x5 H
 unfold j3
 kernel_rfl
theorem j5_eq (rec:Rec) (k:Nat) (n0:Nat) (L0:TL0) (hL0:PhL0 rec k n0 L0) (n2:Nat) (L2:TL2) (hL2:PhL2 rec k n0 n2 L2) (n4:Nat) (L4:Int→Sl→Int→Int→Sl→Int→Int→Int→Int→Sl→Int→Int→Hp→An) (hL4:∀ x1 x5 x6 x7 x17 x18 x19 x27 x28 x45 x46 x47 H,L4 x1 x5 x6 x7 x17 x18 x19 x27 x28 x45 x46 x47 H=iter (o.at (lbody (sub body [1,1,1,0,1,0,0,1,1,0,0,1,1,1,0,0,1,1,0,0,1,1,0]))) (ex PP o rec k (lbody (sub body [1,1,1,0,1,0,0,1,1,0,0,1,1,1,0,0,1,1,0,0,1,1,0]))) (kAt PP o rec k body [1,1,1,0,1,0,0,1,1,0,0,1,1,1,0,0,1,1,0,0,1,1,0] [n0,n2] (K0 PP Go.Proofs.Try.f113)) n4 (St.of 65 [(1,.int .i64 x1),(5,.sl 1 x5),(6,.int .i64 x6),(7,.int .i64 x7),(17,.sl 1 x17),(18,.int .i64 x18),(19,.int .i64 x19),(27,.int .i64 x27),(28,.int .i64 x28),(45,.sl 1 x45),(46,.int .i64 x46),(47,.int .i64 x47)] []) H):∀ x1 x5 x6 x7 x17 x18 x19 x27 x28 x45 x46 x47 H,j5 rec k L0 L2 L4 x1 x5 x6 x7 x17 x18 x19 x27 x28 x45 x46 x47 H=ex PP o rec k (sub body [1,1,1,0,1,0,0,1,1,0,0,1,1,1,0,0,1,1,0,0,1,1,0,0,1,1,1]) (St.of 65 [(1,.int .i64 x1),(5,.sl 1 x5),(6,.int .i64 x6),(7,.int .i64 x7),(17,.sl 1 x17),(18,.int .i64 x18),(19,.int .i64 x19),(27,.int .i64 x27),(28,.int .i64 x28),(45,.sl 1 x45),(46,.int .i64 x46),(47,.int .i64 x47)] []) H (kAt PP o rec k body [1,1,1,0,1,0,0,1,1,0,0,1,1,1,0,0,1,1,0,0,1,1,0,0,1,1,1] [n0,n2,n4] (K0 PP Go.Proofs.Try.f113)):=by
 intros x1 x5 x6 x7 x17 x18 x19 x27 x28 x45 x46 x47 H
 unfold j5
 try simp only [hL0,hL2,hL4,-eq_self]
 kernel_rfl
theorem j6_eq (rec:Rec) (k:Nat) (n0:Nat) (L0:TL0) (hL0:PhL0 rec k n0 L0) (n2:Nat) (L2:TL2) (hL2:PhL2 rec k n0 n2 L2):∀ x1 x5 x6 x7 x17 x18 x19 x27 x28 H,j6 rec k L0 L2 x1 x5 x6 x7 x17 x18 x19 x27 x28 H=ex PP o rec k (sub body [1,1,1,0,1,0,0,1,1,0,0,1,1,1,0,0,1,1,1]) (St.of 65 [(1,.int .i64 x1),(5,.sl 1 x5),(6,.int .i64 x6),(7,.int .i64 x7),(17,.sl 1 x17),(18,.int .i64 x18),(19,.int .i64 x19),(27,.int .i64 x27),(28,.int .i64 x28)] []) H (kAt PP o rec k body [1,1,1,0,1,0,0,1,1,0,0,1,1,1,0,0,1,1,1] [n0,n2] (K0 PP Go.Proofs.Try.f113)):=by
 intros x1 x5 x6 x7 x17 x18 x19 x27 x28 H
 unfold j6
 try simp only [hL0,hL2,-eq_self]
 kernel_rfl
theorem l4_eq (rec:Rec) (k:Nat) (n0:Nat) (L0:TL0) (hL0:PhL0 rec k n0 L0) (n2:Nat) (L2:TL2) (hL2:PhL2 rec k n0 n2 L2):∀ n x1 x5 x6 x7 x17 x18 x19 x27 x28 x45 x46 x47 H,l4 rec k L0 L2 n x1 x5 x6 x7 x17 x18 x19 x27 x28 x45 x46 x47 H=iter (o.at (lbody (sub body [1,1,1,0,1,0,0,1,1,0,0,1,1,1,0,0,1,1,0,0,1,1,0]))) (ex PP o rec k (lbody (sub body [1,1,1,0,1,0,0,1,1,0,0,1,1,1,0,0,1,1,0,0,1,1,0]))) (kAt PP o rec k body [1,1,1,0,1,0,0,1,1,0,0,1,1,1,0,0,1,1,0,0,1,1,0] [n0,n2] (K0 PP Go.Proofs.Try.f113)) n (St.of 65 [(1,.int .i64 x1),(5,.sl 1 x5),(6,.int .i64 x6),(7,.int .i64 x7),(17,.sl 1 x17),(18,.int .i64 x18),(19,.int .i64 x19),(27,.int .i64 x27),(28,.int .i64 x28),(45,.sl 1 x45),(46,.int .i64 x46),(47,.int .i64 x47)] []) H:=by
 intro n
 induction n with
 | zero=>intros; rfl
 | succ n ih=>
  intros x1 x5 x6 x7 x17 x18 x19 x27 x28 x45 x46 x47 H
  simp only [l4,hL0,hL2,j5_eq rec k n0 L0 hL0 n2 L2 hL2 n (l4 rec k L0 L2 n) (fun x1 x5 x6 x7 x17 x18 x19 x27 x28 x45 x46 x47 H=>ih x1 x5 x6 x7 x17 x18 x19 x27 x28 x45 x46 x47 H),j6_eq rec k n0 L0 hL0 n2 L2 hL2,ih,-eq_self]
  kernel_rfl
theorem l2_eq (rec:Rec) (k:Nat) (n0:Nat) (L0:TL0) (hL0:PhL0 rec k n0 L0):∀ n x1 x5 x6 x7 x17 x18 x19 x27 x28 H,l2 rec k L0 n x1 x5 x6 x7 x17 x18 x19 x27 x28 H=iter (o.at (lbody (sub body [1,1,1,0,1,0,0,1,1,0,0,1,1,1,0]))) (ex PP o rec k (lbody (sub body [1,1,1,0,1,0,0,1,1,0,0,1,1,1,0]))) (kAt PP o rec k body [1,1,1,0,1,0,0,1,1,0,0,1,1,1,0] [n0] (K0 PP Go.Proofs.Try.f113)) n (St.of 65 [(1,.int .i64 x1),(5,.sl 1 x5),(6,.int .i64 x6),(7,.int .i64 x7),(17,.sl 1 x17),(18,.int .i64 x18),(19,.int .i64 x19),(27,.int .i64 x27),(28,.int .i64 x28)] []) H:=by
 intro n
 induction n with
 | zero=>intros; rfl
 | succ n ih=>
  intros x1 x5 x6 x7 x17 x18 x19 x27 x28 H
  simp only [l2,hL0,l4_eq rec k n0 L0 hL0 n (l2 rec k L0 n) (fun x1 x5 x6 x7 x17 x18 x19 x27 x28 H=>ih x1 x5 x6 x7 x17 x18 x19 x27 x28 H),j1_eq rec k n0 L0 hL0,ih,-eq_self]
  kernel_rfl
theorem l0_eq (rec:Rec) (k:Nat):∀ n x1 x5 x17 x18 x19 H,l0 rec k n x1 x5 x17 x18 x19 H=iter (o.at (lbody (sub body [1,1,1,0,1,0]))) (ex PP o rec k (lbody (sub body [1,1,1,0,1,0]))) (kAt PP o rec k body [1,1,1,0,1,0] [] (K0 PP Go.Proofs.Try.f113)) n (St.of 65 [(1,.int .i64 x1),(5,.sl 1 x5),(17,.sl 1 x17),(18,.int .i64 x18),(19,.int .i64 x19)] []) H:=by
 intro n
 induction n with
 | zero=>intros; rfl
 | succ n ih=>
  intros x1 x5 x17 x18 x19 H
  simp only [l0,j1_eq rec k n (l0 rec k n) (fun x1 x5 x17 x18 x19 H=>ih x1 x5 x17 x18 x19 H),l2_eq rec k n (l0 rec k n) (fun x1 x5 x17 x18 x19 H=>ih x1 x5 x17 x18 x19 H),j3_eq rec k,ih,-eq_self]
  kernel_rfl
theorem f_eq (rec:Rec) (k:Nat):∀ a0 a1 H,f rec k a0 a1 H=ex PP o rec k body (St.of 65 [(0,.sl 1 a0),(1,.int .i64 a1)] []) H (K0 PP Go.Proofs.Try.f113):=by
 intros a0 a1 H
 unfold f
 try simp only [l0_eq rec k,-eq_self]
 kernel_rfl
theorem call (k:Nat):∀ a0 a1 H,callF PP orc (k + 1) impl_NarrowSingles.id [.sl 1 a0,.int .i64 a1] H=f (callF PP orc k) k a0 a1 H:=by
 intros a0 a1 H
 rw [callF_at (fn:=Go.Proofs.Try.f113) (c:=body) Go.Proofs.Try.func113 (by kernel_rfl) (Nat.le_of_ble_eq_true (by kernel_rfl)),f_eq]
 kernel_rfl
end impl_NarrowSingles
namespace impl_cellFits
noncomputable def body:Code:=(Go.Proofs.Try.f84).body.getD .skip
abbrev o:=orc impl_cellFits.id
abbrev TL0:=Sl→Int→Int→Int→Int→Int→Sl→Sl→Hp→An
abbrev TL1:=Sl→Int→Int→Int→Int→Sl→Int→Int→Int→Sl→Sl→Hp→An
abbrev TL5:=Sl→Int→Int→Sl→Int→Int→Hp→An
abbrev PhL0 (rec:Rec) (k n0:Nat) (L0:TL0):Prop:=∀ x1 x2 x7 x15 x16 y3_0 y3_1 y3_2 H,L0 x1 x2 x7 x15 x16 y3_0 y3_1 y3_2 H=iter (o.at (lbody (sub body [1,1,0,1,0]))) (ex PP o rec k (lbody (sub body [1,1,0,1,0]))) (kAt PP o rec k body [1,1,0,1,0] [] (K0 PP Go.Proofs.Try.f84)) n0 (St.of 74 [(1,.sl 1 x1),(2,.int .i64 x2),(3,.lp 3 0),(7,.int .i64 x7),(15,.int .i64 x15),(16,.int .i64 x16)] [(3,[.int .i64 y3_0,.sl 1 y3_1,.sl 3 y3_2])]) H
abbrev PhL1 (rec:Rec) (k n0 n1:Nat) (L1:TL1):Prop:=∀ x1 x2 x7 x15 x16 x33 x34 x35 y3_0 y3_1 y3_2 H,L1 x1 x2 x7 x15 x16 x33 x34 x35 y3_0 y3_1 y3_2 H=iter (o.at (lbody (sub body [1,1,0,1,0,0,1,1,0,0,1,1,0]))) (ex PP o rec k (lbody (sub body [1,1,0,1,0,0,1,1,0,0,1,1,0]))) (kAt PP o rec k body [1,1,0,1,0,0,1,1,0,0,1,1,0] [n0] (K0 PP Go.Proofs.Try.f84)) n1 (St.of 74 [(1,.sl 1 x1),(2,.int .i64 x2),(3,.lp 3 0),(7,.int .i64 x7),(15,.int .i64 x15),(16,.int .i64 x16),(33,.sl 1 x33),(34,.int .i64 x34),(35,.int .i64 x35)] [(3,[.int .i64 y3_0,.sl 1 y3_1,.sl 3 y3_2])]) H
abbrev PhL5 (rec:Rec) (k n5:Nat) (L5:TL5):Prop:=∀ x1 x2 x7 x56 x57 x58 H,L5 x1 x2 x7 x56 x57 x58 H=iter (o.at (lbody (sub body [1,1,1,0,1,0]))) (ex PP o rec k (lbody (sub body [1,1,1,0,1,0]))) (kAt PP o rec k body [1,1,1,0,1,0] [] (K0 PP Go.Proofs.Try.f84)) n5 (St.of 74 [(1,.sl 1 x1),(2,.int .i64 x2),(7,.int .i64 x7),(56,.sl 3 x56),(57,.int .i64 x57),(58,.int .i64 x58)] []) H
noncomputable def j4 (rec:Rec) (k:Nat) (L0:TL0) (x1:Sl) (x2:Int) (x7:Int) (x15:Int) (x16:Int) (y3_0:Int) (y3_1:Sl) (y3_2:Sl) (H:Hp):An:=L0 x1 x2 x7 x15 (IntKind.i64.wrap (x16 + 1)) y3_0 y3_1 y3_2 H
noncomputable def j6 (rec:Rec) (k:Nat) (L0:TL0) (L1:TL1) (x1:Sl) (x2:Int) (x7:Int) (x15:Int) (x16:Int) (x33:Sl) (x34:Int) (x35:Int) (y3_0:Int) (y3_1:Sl) (y3_2:Sl) (H:Hp):An:=L1 x1 x2 x7 x15 x16 x33 x34 (IntKind.i64.wrap (x35 + 1)) y3_0 y3_1 y3_2 H
noncomputable def j3 (rec:Rec) (k:Nat) (L0:TL0) (L1:TL1) (x1:Sl) (x2:Int) (x7:Int) (x15:Int) (x16:Int) (x33:Sl) (x34:Int) (x35:Int) (x52:Bool) (y3_0:Int) (y3_1:Sl) (y3_2:Sl) (H:Hp):An:=bif x52 then some (.bool false,H) else j6 rec k L0 L1 x1 x2 x7 x15 x16 x33 x34 x35 y3_0 y3_1 y3_2 H
noncomputable def l1 (rec:Rec) (k:Nat) (L0:TL0):Nat→Sl→Int→Int→Int→Int→Sl→Int→Int→Int→Sl→Sl→Hp→An
 | 0,_,_,_,_,_,_,_,_,_,_,_,_=>none
 | n + 1,x1,x2,x7,x15,x16,x33,x34,x35,y3_0,y3_1,y3_2,H=>bif decide (x35 < x34) then bif decide (0 ≤ (x35:Int)) && decide ((x35:Int) < x33.len) then (ldI .i64 H x33.blk (x33.off + (x35:Int).toNat * 1)).bind fun n1=>bif n1 != x2 then bif decide (0 ≤ (n1:Int)) && decide ((n1:Int) < x1.len) then (ldI .i64 H x1.blk (x1.off + (n1:Int).toNat * 1)).bind fun n2=>bif decide (0 ≤ (x2:Int)) && decide ((x2:Int) < x1.len) then (ldI .i64 H x1.blk (x1.off + (x2:Int).toNat * 1)).bind fun n3=>j3 rec k L0 (l1 rec k L0 n) x1 x2 x7 x15 x16 x33 x34 x35 (n2 == n3) y3_0 y3_1 y3_2 H else none else none else j3 rec k L0 (l1 rec k L0 n) x1 x2 x7 x15 x16 x33 x34 x35 false y3_0 y3_1 y3_2 H else none else j4 rec k L0 x1 x2 x7 x15 x16 y3_0 y3_1 y3_2 H
noncomputable def j8 (rec:Rec) (k:Nat) (L5:TL5) (x1:Sl) (x2:Int) (x7:Int) (x56:Sl) (x57:Int) (x58:Int) (H:Hp):An:=L5 x1 x2 x7 x56 x57 (IntKind.i64.wrap (x58 + 1)) H
noncomputable def j7 (rec:Rec) (k:Nat) (L5:TL5) (x1:Sl) (x2:Int) (x7:Int) (x56:Sl) (x57:Int) (x58:Int) (x72:Bool) (H:Hp):An:=bif x72 then some (.bool false,H) else j8 rec k L5 x1 x2 x7 x56 x57 x58 H
noncomputable def l5 (rec:Rec) (k:Nat):Nat→Sl→Int→Int→Sl→Int→Int→Hp→An
 | 0,_,_,_,_,_,_,_=>none
 | n + 1,x1,x2,x7,x56,x57,x58,H=>bif decide (x58 < x57) then bif decide (0 ≤ (x58:Int)) && decide ((x58:Int) < x56.len) then (ldI .i64 H x56.blk (x56.off + (x58:Int).toNat * 3)).bind fun n4=>(ldS 1 H x56.blk (x56.off + (x58:Int).toNat * 3 + 1)).bind fun s5=>(ldI .i64 H x56.blk (x56.off + (x58:Int).toNat * 3 + 1 + 1)).bind fun n6=>(rec slices_Contains_int.id [.sl 1 s5,.int .i64 x2] H).bind fun r7=>r7.1.toB.bind fun b8=>bif b8 then (rec impl_canHold.id [.agg [.int .i64 n4,.sl 1 s5,.int .i64 n6],.sl 1 x1,.int .i64 x7] r7.2).bind fun r9=>r9.1.toB.bind fun b10=>j7 rec k (l5 rec k n) x1 x2 x7 x56 x57 x58 (!b10) r9.2 else j7 rec k (l5 rec k n) x1 x2 x7 x56 x57 x58 false r7.2 else none else some (.bool true,H)
noncomputable def j2 (rec:Rec) (k:Nat) (x1:Sl) (x2:Int) (x7:Int) (y3_0:Int) (y3_1:Sl) (y3_2:Sl) (H:Hp):An:=l5 rec k k x1 x2 x7 y3_2 (y3_2.len:Int) 0 H
noncomputable def l0 (rec:Rec) (k:Nat):Nat→Sl→Int→Int→Int→Int→Int→Sl→Sl→Hp→An
 | 0,_,_,_,_,_,_,_,_,_=>none
 | n + 1,x1,x2,x7,x15,x16,y3_0,y3_1,y3_2,H=>bif decide (x16 < x15) then if (x7:Int)=0 then none else if (x7:Int)=0 then none else l1 rec k (l0 rec k n) k x1 x2 x7 x15 x16 (Sl.mk false H.length 0 2) ((Sl.mk false H.length 0 2).len:Int) 0 y3_0 y3_1 y3_2 (H ++ [some (Blk.mk false [.int .i64 (IntKind.i64.wrap ((IntKind.i64.wrap ((IntKind.i64.wrap ((x2:Int).tdiv x7)) * x7)) + x16)),.int .i64 (IntKind.i64.wrap ((IntKind.i64.wrap (x16 * x7)) + ((x2:Int).tmod x7)))])]) else j2 rec k x1 x2 x7 y3_0 y3_1 y3_2 H
noncomputable def f (rec:Rec) (k:Nat) (a0_0:Int) (a0_1:Sl) (a0_2:Sl) (a1:Sl) (a2:Int) (H:Hp):An:=l0 rec k k a1 a2 a0_0 a0_0 0 a0_0 a0_1 a0_2 H
theorem j4_eq (rec:Rec) (k:Nat) (n0:Nat) (L0:TL0) (hL0:PhL0 rec k n0 L0):∀ x1 x2 x7 x15 x16 y3_0 y3_1 y3_2 H,j4 rec k L0 x1 x2 x7 x15 x16 y3_0 y3_1 y3_2 H=ex PP o rec k (sub body [1,1,0,1,0,0,1,1,1]) (St.of 74 [(1,.sl 1 x1),(2,.int .i64 x2),(3,.lp 3 0),(7,.int .i64 x7),(15,.int .i64 x15),(16,.int .i64 x16)] [(3,[.int .i64 y3_0,.sl 1 y3_1,.sl 3 y3_2])]) H (kAt PP o rec k body [1,1,0,1,0,0,1,1,1] [n0] (K0 PP Go.Proofs.Try.f84)):=by
 intros x1 x2 x7 x15 x16 y3_0 y3_1 y3_2 H
 unfold j4
 try simp only [hL0,-eq_self]
 kernel_rfl
theorem j6_eq (rec:Rec) (k:Nat) (n0:Nat) (L0:TL0) (hL0:PhL0 rec k n0 L0) (n1:Nat) (L1:TL1) (hL1:PhL1 rec k n0 n1 L1):∀ x1 x2 x7 x15 x16 x33 x34 x35 y3_0 y3_1 y3_2 H,j6 rec k L0 L1 x1 x2 x7 x15 x16 x33 x34 x35 y3_0 y3_1 y3_2 H=ex PP o rec k (sub body [1,1,0,1,0,0,1,1,0,0,1,1,0,0,1,1,1]) (St.of 74 [(1,.sl 1 x1),(2,.int .i64 x2),(3,.lp 3 0),(7,.int .i64 x7),(15,.int .i64 x15),(16,.int .i64 x16),(33,.sl 1 x33),(34,.int .i64 x34),(35,.int .i64 x35)] [(3,[.int .i64 y3_0,.sl 1 y3_1,.sl 3 y3_2])]) H (kAt PP o rec k body [1,1,0,1,0,0,1,1,0,0,1,1,0,0,1,1,1] [n0,n1] (K0 PP Go.Proofs.Try.f84)):=by
 intros x1 x2 x7 x15 x16 x33 x34 x35 y3_0 y3_1 y3_2 H
 unfold j6
 try simp only [hL0,hL1,-eq_self]
 kernel_rfl
theorem j3_eq (rec:Rec) (k:Nat) (n0:Nat) (L0:TL0) (hL0:PhL0 rec k n0 L0) (n1:Nat) (L1:TL1) (hL1:PhL1 rec k n0 n1 L1):∀ x1 x2 x7 x15 x16 x33 x34 x35 x52 y3_0 y3_1 y3_2 H,j3 rec k L0 L1 x1 x2 x7 x15 x16 x33 x34 x35 x52 y3_0 y3_1 y3_2 H=ex PP o rec k (sub body [1,1,0,1,0,0,1,1,0,0,1,1,0,0,1,1,0,0,1,1]) (St.of 74 [(1,.sl 1 x1),(2,.int .i64 x2),(3,.lp 3 0),(7,.int .i64 x7),(15,.int .i64 x15),(16,.int .i64 x16),(33,.sl 1 x33),(34,.int .i64 x34),(35,.int .i64 x35),(52,.bool x52)] [(3,[.int .i64 y3_0,.sl 1 y3_1,.sl 3 y3_2])]) H (kAt PP o rec k body [1,1,0,1,0,0,1,1,0,0,1,1,0,0,1,1,0,0,1,1] [n0,n1] (K0 PP Go.Proofs.Try.f84)):=by
 intros x1 x2 x7 x15 x16 x33 x34 x35 x52 y3_0 y3_1 y3_2 H
 unfold j3
 try simp only [hL0,hL1,j6_eq rec k n0 L0 hL0 n1 L1 hL1,-eq_self]
 kernel_rfl
theorem l1_eq (rec:Rec) (k:Nat) (n0:Nat) (L0:TL0) (hL0:PhL0 rec k n0 L0):∀ n x1 x2 x7 x15 x16 x33 x34 x35 y3_0 y3_1 y3_2 H,l1 rec k L0 n x1 x2 x7 x15 x16 x33 x34 x35 y3_0 y3_1 y3_2 H=iter (o.at (lbody (sub body [1,1,0,1,0,0,1,1,0,0,1,1,0]))) (ex PP o rec k (lbody (sub body [1,1,0,1,0,0,1,1,0,0,1,1,0]))) (kAt PP o rec k body [1,1,0,1,0,0,1,1,0,0,1,1,0] [n0] (K0 PP Go.Proofs.Try.f84)) n (St.of 74 [(1,.sl 1 x1),(2,.int .i64 x2),(3,.lp 3 0),(7,.int .i64 x7),(15,.int .i64 x15),(16,.int .i64 x16),(33,.sl 1 x33),(34,.int .i64 x34),(35,.int .i64 x35)] [(3,[.int .i64 y3_0,.sl 1 y3_1,.sl 3 y3_2])]) H:=by
 intro n
 induction n with
 | zero=>intros; rfl
 | succ n ih=>
  intros x1 x2 x7 x15 x16 x33 x34 x35 y3_0 y3_1 y3_2 H
  simp only [l1,hL0,j3_eq rec k n0 L0 hL0 n (l1 rec k L0 n) (fun x1 x2 x7 x15 x16 x33 x34 x35 y3_0 y3_1 y3_2 H=>ih x1 x2 x7 x15 x16 x33 x34 x35 y3_0 y3_1 y3_2 H),j4_eq rec k n0 L0 hL0,ih,-eq_self]
  kernel_rfl
theorem j8_eq (rec:Rec) (k:Nat) (n5:Nat) (L5:TL5) (hL5:PhL5 rec k n5 L5):∀ x1 x2 x7 x56 x57 x58 H,j8 rec k L5 x1 x2 x7 x56 x57 x58 H=ex PP o rec k (sub body [1,1,1,0,1,0,0,1,1,1]) (St.of 74 [(1,.sl 1 x1),(2,.int .i64 x2),(7,.int .i64 x7),(56,.sl 3 x56),(57,.int .i64 x57),(58,.int .i64 x58)] []) H (kAt PP o rec k body [1,1,1,0,1,0,0,1,1,1] [n5] (K0 PP Go.Proofs.Try.f84)):=by
 intros x1 x2 x7 x56 x57 x58 H
 unfold j8
 try simp only [hL5,-eq_self]
 kernel_rfl
theorem j7_eq (rec:Rec) (k:Nat) (n5:Nat) (L5:TL5) (hL5:PhL5 rec k n5 L5):∀ x1 x2 x7 x56 x57 x58 x72 H,j7 rec k L5 x1 x2 x7 x56 x57 x58 x72 H=ex PP o rec k (sub body [1,1,1,0,1,0,0,1,1,0,0,1,1]) (St.of 74 [(1,.sl 1 x1),(2,.int .i64 x2),(7,.int .i64 x7),(56,.sl 3 x56),(57,.int .i64 x57),(58,.int .i64 x58),(72,.bool x72)] []) H (kAt PP o rec k body [1,1,1,0,1,0,0,1,1,0,0,1,1] [n5] (K0 PP Go.Proofs.Try.f84)):=by
 intros x1 x2 x7 x56 x57 x58 x72 H
 unfold j7
 try simp only [hL5,j8_eq rec k n5 L5 hL5,-eq_self]
 kernel_rfl
theorem l5_eq (rec:Rec) (k:Nat):∀ n x1 x2 x7 x56 x57 x58 H,l5 rec k n x1 x2 x7 x56 x57 x58 H=iter (o.at (lbody (sub body [1,1,1,0,1,0]))) (ex PP o rec k (lbody (sub body [1,1,1,0,1,0]))) (kAt PP o rec k body [1,1,1,0,1,0] [] (K0 PP Go.Proofs.Try.f84)) n (St.of 74 [(1,.sl 1 x1),(2,.int .i64 x2),(7,.int .i64 x7),(56,.sl 3 x56),(57,.int .i64 x57),(58,.int .i64 x58)] []) H:=by
 intro n
 induction n with
 | zero=>intros; rfl
 | succ n ih=>
  intros x1 x2 x7 x56 x57 x58 H
  simp only [l5,j7_eq rec k n (l5 rec k n) (fun x1 x2 x7 x56 x57 x58 H=>ih x1 x2 x7 x56 x57 x58 H),ih,-eq_self]
  kernel_rfl
theorem j2_eq (rec:Rec) (k:Nat):∀ x1 x2 x7 y3_0 y3_1 y3_2 H,j2 rec k x1 x2 x7 y3_0 y3_1 y3_2 H=ex PP o rec k (sub body [1,1,1]) (St.of 74 [(1,.sl 1 x1),(2,.int .i64 x2),(3,.lp 3 0),(7,.int .i64 x7)] [(3,[.int .i64 y3_0,.sl 1 y3_1,.sl 3 y3_2])]) H (kAt PP o rec k body [1,1,1] [] (K0 PP Go.Proofs.Try.f84)):=by
 intros x1 x2 x7 y3_0 y3_1 y3_2 H
 unfold j2
 try simp only [l5_eq rec k,-eq_self]
 kernel_rfl
theorem l0_eq (rec:Rec) (k:Nat):∀ n x1 x2 x7 x15 x16 y3_0 y3_1 y3_2 H,l0 rec k n x1 x2 x7 x15 x16 y3_0 y3_1 y3_2 H=iter (o.at (lbody (sub body [1,1,0,1,0]))) (ex PP o rec k (lbody (sub body [1,1,0,1,0]))) (kAt PP o rec k body [1,1,0,1,0] [] (K0 PP Go.Proofs.Try.f84)) n (St.of 74 [(1,.sl 1 x1),(2,.int .i64 x2),(3,.lp 3 0),(7,.int .i64 x7),(15,.int .i64 x15),(16,.int .i64 x16)] [(3,[.int .i64 y3_0,.sl 1 y3_1,.sl 3 y3_2])]) H:=by
 intro n
 induction n with
 | zero=>intros; rfl
 | succ n ih=>
  intros x1 x2 x7 x15 x16 y3_0 y3_1 y3_2 H
  simp only [l0,l1_eq rec k n (l0 rec k n) (fun x1 x2 x7 x15 x16 y3_0 y3_1 y3_2 H=>ih x1 x2 x7 x15 x16 y3_0 y3_1 y3_2 H),j2_eq rec k,ih,-eq_self]
  kernel_rfl
theorem f_eq (rec:Rec) (k:Nat):∀ a0_0 a0_1 a0_2 a1 a2 H,f rec k a0_0 a0_1 a0_2 a1 a2 H=ex PP o rec k body (St.of 74 [(0,.agg [.int .i64 a0_0,.sl 1 a0_1,.sl 3 a0_2]),(1,.sl 1 a1),(2,.int .i64 a2)] []) H (K0 PP Go.Proofs.Try.f84):=by
 intros a0_0 a0_1 a0_2 a1 a2 H
 unfold f
 try simp only [l0_eq rec k,-eq_self]
 kernel_rfl
theorem call (k:Nat):∀ a0_0 a0_1 a0_2 a1 a2 H,callF PP orc (k + 1) impl_cellFits.id [.agg [.int .i64 a0_0,.sl 1 a0_1,.sl 3 a0_2],.sl 1 a1,.int .i64 a2] H=f (callF PP orc k) k a0_0 a0_1 a0_2 a1 a2 H:=by
 intros a0_0 a0_1 a0_2 a1 a2 H
 rw [callF_at (fn:=Go.Proofs.Try.f84) (c:=body) Go.Proofs.Try.func84 (by kernel_rfl) (Nat.le_of_ble_eq_true (by kernel_rfl)),f_eq]
 kernel_rfl
end impl_cellFits
namespace impl_solutions
noncomputable def body:Code:=(Go.Proofs.Try.f53).body.getD .skip
noncomputable def f (rec:Rec) (k:Nat) (a0_0:Int) (a0_1:Sl) (a0_2:Sl) (a1:Sl) (a2f:Nat) (a2c:List AV) (H:Hp):An:=(rec slices_Clone_int.id [.sl 1 a1] (H ++ [some (Blk.mk false [.int .i64 a0_0,.sl 1 a0_1,.sl 3 a0_2])] ++ [some (Blk.mk false [.fn a2f a2c])])).bind fun r1=>(r1.1.toS 1).bind fun s2=>((r1.2 ++ [some (Blk.mk false [.sl 1 Sl.none])]).sto r1.2.length 0 [.sl 1 s2]).bind fun H3=>(ldI .i64 H3 H.length 0).bind fun n4=>(ldS 1 H3 H.length (0 + 1)).bind fun s5=>(ldS 3 H3 H.length (0 + 1 + 1)).bind fun s6=>(ldS 1 H3 r1.2.length 0).bind fun s7=>(rec impl_PuzzleFits.id [.agg [.int .i64 n4,.sl 1 s5,.sl 3 s6],.sl 1 s7] H3).bind fun r8=>r8.1.toB.bind fun b9=>bif !b9 then some (.tup [],r8.2) else (ldI .i64 r8.2 H.length (0 + 0)).bind fun n10=>((r8.2 ++ [some (Blk.mk false [.int .i64 0])]).sto r8.2.length 0 [.int .i64 n10]).bind fun H11=>((H11 ++ [some (Blk.mk false [.nilf])]).sto H11.length 0 [.fn impl_solutions_1.id [.ptr r1.2.length 0,.ptr ((H ++ [some (Blk.mk false [.int .i64 a0_0,.sl 1 a0_1,.sl 3 a0_2])]).length) 0,.ptr H11.length 0,.ptr r8.2.length 0,.ptr H.length 0]]).bind fun H12=>(ldF H12 H11.length 0).bind fun q13=>bif okF Go.Proofs.Try.prog q13.1 && ([.int .i64 0] ++ q13.2:List AV).all AV.glob then (rec q13.1 ([.int .i64 0] ++ q13.2) H12).bind fun r14=>r14.1.toB.bind fun b15=>some (.tup [],r14.2) else none
theorem f_eq (rec:Rec) (k:Nat):∀ a0_0 a0_1 a0_2 a1 a2f a2c H,f rec k a0_0 a0_1 a0_2 a1 a2f a2c H=ex PP (orc impl_solutions.id) rec k body (St.of 20 [(0,.agg [.int .i64 a0_0,.sl 1 a0_1,.sl 3 a0_2]),(1,.sl 1 a1),(2,.fn a2f a2c)] []) H (K0 PP Go.Proofs.Try.f53):=by
 intros a0_0 a0_1 a0_2 a1 a2f a2c H
 unfold f
 kernel_rfl
theorem call (k:Nat):∀ a0_0 a0_1 a0_2 a1 a2f a2c H,callF PP orc (k + 1) impl_solutions.id [.agg [.int .i64 a0_0,.sl 1 a0_1,.sl 3 a0_2],.sl 1 a1,.fn a2f a2c] H=f (callF PP orc k) k a0_0 a0_1 a0_2 a1 a2f a2c H:=by
 intros a0_0 a0_1 a0_2 a1 a2f a2c H
 rw [callF_at (fn:=Go.Proofs.Try.f53) (c:=body) Go.Proofs.Try.func53 (by kernel_rfl) (Nat.le_of_ble_eq_true (by kernel_rfl)),f_eq]
 kernel_rfl
end impl_solutions
namespace impl_solutions_1
noncomputable def body:Code:=(Go.Proofs.Try.f83).body.getD .skip
abbrev o:=orc impl_solutions_1.id
abbrev TL0:=Int→Nat→Nat→Nat→Nat→Nat→Nat→Nat→Nat→Int→Hp→An
abbrev PhL0 (rec:Rec) (k n0:Nat) (L0:TL0):Prop:=∀ x0 x1b x1o x3b x3o x4b x4o x5b x5o x8 H,L0 x0 x1b x1o x3b x3o x4b x4o x5b x5o x8 H=iter (o.at (lbody (sub body [1,1,1,0,1,0]))) (ex PP o rec k (lbody (sub body [1,1,1,0,1,0]))) (kAt PP o rec k body [1,1,1,0,1,0] [] (K0 PP Go.Proofs.Try.f83)) n0 (St.of 48 [(0,.int .i64 x0),(1,.ptr x1b x1o),(3,.ptr x3b x3o),(4,.ptr x4b x4o),(5,.ptr x5b x5o),(8,.int .i64 x8)] []) H
noncomputable def j2 (rec:Rec) (k:Nat) (x0:Int) (x1b:Nat) (x1o:Nat) (H:Hp):An:=(ldS 1 H x1b x1o).bind fun s23=>bif decide (0 ≤ (x0:Int)) && decide ((x0:Int) < s23.len) then (H.sto s23.blk (s23.off + (x0:Int).toNat * 1) [.int .i64 0]).bind fun H24=>some (.bool true,H24) else none
noncomputable def j3 (rec:Rec) (k:Nat) (L0:TL0) (x0:Int) (x1b:Nat) (x1o:Nat) (x3b:Nat) (x3o:Nat) (x4b:Nat) (x4o:Nat) (x5b:Nat) (x5o:Nat) (x8:Int) (H:Hp):An:=L0 x0 x1b x1o x3b x3o x4b x4o x5b x5o (IntKind.i64.wrap (x8 + 1)) H
noncomputable def j1 (rec:Rec) (k:Nat) (L0:TL0) (x0:Int) (x1b:Nat) (x1o:Nat) (x3b:Nat) (x3o:Nat) (x4b:Nat) (x4o:Nat) (x5b:Nat) (x5o:Nat) (x8:Int) (x44:Bool) (H:Hp):An:=bif x44 then some (.bool false,H) else j3 rec k L0 x0 x1b x1o x3b x3o x4b x4o x5b x5o x8 H
noncomputable def l0 (rec:Rec) (k:Nat):Nat→Int→Nat→Nat→Nat→Nat→Nat→Nat→Nat→Nat→Int→Hp→An
 | 0,_,_,_,_,_,_,_,_,_,_,_=>none
 | n + 1,x0,x1b,x1o,x3b,x3o,x4b,x4o,x5b,x5o,x8,H=>(ldI .i64 H x4b x4o).bind fun n11=>bif decide (x8 ≤ n11) then (ldS 1 H x1b x1o).bind fun s12=>bif decide (0 ≤ (x0:Int)) && decide ((x0:Int) < s12.len) then (H.sto s12.blk (s12.off + (x0:Int).toNat * 1) [.int .i64 x8]).bind fun H13=>(ldI .i64 H13 x5b x5o).bind fun n14=>(ldS 1 H13 x5b (x5o + 1)).bind fun s15=>(ldS 3 H13 x5b (x5o + 1 + 1)).bind fun s16=>(ldS 1 H13 x1b x1o).bind fun s17=>(rec impl_cellFits.id [.agg [.int .i64 n14,.sl 1 s15,.sl 3 s16],.sl 1 s17,.int .i64 x0] H13).bind fun r18=>r18.1.toB.bind fun b19=>bif b19 then (ldF r18.2 x3b x3o).bind fun q20=>bif okF Go.Proofs.Try.prog q20.1 && ([.int .i64 (IntKind.i64.wrap (x0 + 1))] ++ q20.2:List AV).all AV.glob then (rec q20.1 ([.int .i64 (IntKind.i64.wrap (x0 + 1))] ++ q20.2) r18.2).bind fun r21=>r21.1.toB.bind fun b22=>j1 rec k (l0 rec k n) x0 x1b x1o x3b x3o x4b x4o x5b x5o x8 (!b22) r21.2 else none else j1 rec k (l0 rec k n) x0 x1b x1o x3b x3o x4b x4o x5b x5o x8 false r18.2 else none else j2 rec k x0 x1b x1o H
noncomputable def f (rec:Rec) (k:Nat) (a0:Int) (c0b:Nat) (c0o:Nat) (c1b:Nat) (c1o:Nat) (c2b:Nat) (c2o:Nat) (c3b:Nat) (c3o:Nat) (c4b:Nat) (c4o:Nat) (H:Hp):An:=(ldS 1 H c0b c0o).bind fun s1=>bif a0 == (s1.len:Int) then (ldF H c1b c1o).bind fun q2=>(ldS 1 H c0b c0o).bind fun s3=>bif okF Go.Proofs.Try.prog q2.1 && ([.sl 1 s3] ++ q2.2:List AV).all AV.glob then (rec q2.1 ([.sl 1 s3] ++ q2.2) H).bind fun r4=>r4.1.toB.bind fun b5=>some (.bool b5,r4.2) else none else (ldS 1 H c0b c0o).bind fun s6=>bif decide (0 ≤ (a0:Int)) && decide ((a0:Int) < s6.len) then (ldI .i64 H s6.blk (s6.off + (a0:Int).toNat * 1)).bind fun n7=>bif decide (n7 > 0) then (ldF H c2b c2o).bind fun q8=>bif okF Go.Proofs.Try.prog q8.1 && ([.int .i64 (IntKind.i64.wrap (a0 + 1))] ++ q8.2:List AV).all AV.glob then (rec q8.1 ([.int .i64 (IntKind.i64.wrap (a0 + 1))] ++ q8.2) H).bind fun r9=>r9.1.toB.bind fun b10=>some (.bool b10,r9.2) else none else l0 rec k k a0 c0b c0o c2b c2o c3b c3o c4b c4o 1 H else none
theorem j2_eq (rec:Rec) (k:Nat):∀ x0 x1b x1o H,j2 rec k x0 x1b x1o H=ex PP o rec k (sub body [1,1,1,1]) (St.of 48 [(0,.int .i64 x0),(1,.ptr x1b x1o)] []) H (kAt PP o rec k body [1,1,1,1] [] (K0 PP Go.Proofs.Try.f83)):=by
 intros x0 x1b x1o H
 unfold j2
 kernel_rfl
theorem j3_eq (rec:Rec) (k:Nat) (n0:Nat) (L0:TL0) (hL0:PhL0 rec k n0 L0):∀ x0 x1b x1o x3b x3o x4b x4o x5b x5o x8 H,j3 rec k L0 x0 x1b x1o x3b x3o x4b x4o x5b x5o x8 H=ex PP o rec k (sub body [1,1,1,0,1,0,0,1,1]) (St.of 48 [(0,.int .i64 x0),(1,.ptr x1b x1o),(3,.ptr x3b x3o),(4,.ptr x4b x4o),(5,.ptr x5b x5o),(8,.int .i64 x8)] []) H (kAt PP o rec k body [1,1,1,0,1,0,0,1,1] [n0] (K0 PP Go.Proofs.Try.f83)):=by
 intros x0 x1b x1o x3b x3o x4b x4o x5b x5o x8 H
 unfold j3
 try simp only [hL0,-eq_self]
 kernel_rfl
theorem j1_eq (rec:Rec) (k:Nat) (n0:Nat) (L0:TL0) (hL0:PhL0 rec k n0 L0):∀ x0 x1b x1o x3b x3o x4b x4o x5b x5o x8 x44 H,j1 rec k L0 x0 x1b x1o x3b x3o x4b x4o x5b x5o x8 x44 H=ex PP o rec k (sub body [1,1,1,0,1,0,0,1,0,0,1,1]) (St.of 48 [(0,.int .i64 x0),(1,.ptr x1b x1o),(3,.ptr x3b x3o),(4,.ptr x4b x4o),(5,.ptr x5b x5o),(8,.int .i64 x8),(44,.bool x44)] []) H (kAt PP o rec k body [1,1,1,0,1,0,0,1,0,0,1,1] [n0] (K0 PP Go.Proofs.Try.f83)):=by
 intros x0 x1b x1o x3b x3o x4b x4o x5b x5o x8 x44 H
 unfold j1
 try simp only [hL0,j3_eq rec k n0 L0 hL0,-eq_self]
 kernel_rfl
theorem l0_eq (rec:Rec) (k:Nat):∀ n x0 x1b x1o x3b x3o x4b x4o x5b x5o x8 H,l0 rec k n x0 x1b x1o x3b x3o x4b x4o x5b x5o x8 H=iter (o.at (lbody (sub body [1,1,1,0,1,0]))) (ex PP o rec k (lbody (sub body [1,1,1,0,1,0]))) (kAt PP o rec k body [1,1,1,0,1,0] [] (K0 PP Go.Proofs.Try.f83)) n (St.of 48 [(0,.int .i64 x0),(1,.ptr x1b x1o),(3,.ptr x3b x3o),(4,.ptr x4b x4o),(5,.ptr x5b x5o),(8,.int .i64 x8)] []) H:=by
 intro n
 induction n with
 | zero=>intros; rfl
 | succ n ih=>
  intros x0 x1b x1o x3b x3o x4b x4o x5b x5o x8 H
  simp only [l0,j1_eq rec k n (l0 rec k n) (fun x0 x1b x1o x3b x3o x4b x4o x5b x5o x8 H=>ih x0 x1b x1o x3b x3o x4b x4o x5b x5o x8 H),j2_eq rec k,ih,-eq_self]
  kernel_rfl
theorem f_eq (rec:Rec) (k:Nat):∀ a0 c0b c0o c1b c1o c2b c2o c3b c3o c4b c4o H,f rec k a0 c0b c0o c1b c1o c2b c2o c3b c3o c4b c4o H=ex PP o rec k body (St.of 48 [(0,.int .i64 a0),(1,.ptr c0b c0o),(2,.ptr c1b c1o),(3,.ptr c2b c2o),(4,.ptr c3b c3o),(5,.ptr c4b c4o)] []) H (K0 PP Go.Proofs.Try.f83):=by
 intros a0 c0b c0o c1b c1o c2b c2o c3b c3o c4b c4o H
 unfold f
 try simp only [l0_eq rec k,-eq_self]
 kernel_rfl
theorem call (k:Nat):∀ a0 c0b c0o c1b c1o c2b c2o c3b c3o c4b c4o H,callF PP orc (k + 1) impl_solutions_1.id [.int .i64 a0,.ptr c0b c0o,.ptr c1b c1o,.ptr c2b c2o,.ptr c3b c3o,.ptr c4b c4o] H=f (callF PP orc k) k a0 c0b c0o c1b c1o c2b c2o c3b c3o c4b c4o H:=by
 intros a0 c0b c0o c1b c1o c2b c2o c3b c3o c4b c4o H
 rw [callF_at (fn:=Go.Proofs.Try.f83) (c:=body) Go.Proofs.Try.func83 (by kernel_rfl) (Nat.le_of_ble_eq_true (by kernel_rfl)),f_eq]
 kernel_rfl
end impl_solutions_1
end Go.Proofs.Ytjikkamhljbipaa.Rp
