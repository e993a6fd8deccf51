/- Texts for the row of the law FnNarrowCandidates, part 7: the plain machine, the program's functions on it, what they come to. No conditions. -/
import Derived.Test.YtjojhbdghhmeeaaAb
import Derived.Test.YtjojhbdghhmeeaaOr
set_option linter.unusedVariables false
set_option linter.unusedSimpArgs false
set_option maxRecDepth 100000
namespace Go.Proofs.Ytjojhbdghhmeeaa.Rp
open Go Go.Proofs.Ytjojhbdghhmeeaa.Ab
namespace impl_StartMasks
noncomputable def body:Code:=(Go.Proofs.Try.f54).body.getD .skip
abbrev o:=orc impl_StartMasks.id
noncomputable def j1 (rec:Rec) (k:Nat) (L0:Sl→Sl→Int→Int→Int→Sl→Sl→Hp→An) (x3:Sl) (x14:Sl) (x15:Int) (x16:Int) (y1_0:Int) (y1_1:Sl) (y1_2:Sl) (H:Hp):An:=L0 x3 x14 x15 (IntKind.i64.wrap (x16 + 1)) y1_0 y1_1 y1_2 H
noncomputable def j2 (rec:Rec) (k:Nat) (x3:Sl) (H:Hp):An:=some (.sl 1 x3,H)
noncomputable def l0 (rec:Rec) (k:Nat):Nat→Sl→Sl→Int→Int→Int→Sl→Sl→Hp→An
 | 0,_,_,_,_,_,_,_,_=>none
 | n + 1,x3,x14,x15,x16,y1_0,y1_1,y1_2,H=>bif decide (x16 < x15) then bif decide (0 ≤ (x16:Int)) && decide ((x16:Int) < x14.len) then (ldI .i64 H x14.blk (x14.off + (x16:Int).toNat * 1)).bind fun n3=>(rec impl_allValues.id [.int .i64 y1_0] H).bind fun r4=>(r4.1.toI .i64).bind fun n5=>bif decide (0 ≤ (x16:Int)) && decide ((x16:Int) < x3.len) then (r4.2.sto x3.blk (x3.off + (x16:Int).toNat * 1) [.int .i64 n5]).bind fun H6=>bif decide (n3 > 0) then if (n3:Int) < 0 then none else bif decide (0 ≤ (x16:Int)) && decide ((x16:Int) < x3.len) then (H6.sto x3.blk (x3.off + (x16:Int).toNat * 1) [.int .i64 (IntKind.i64.wrap (1 * 2 ^ (min (n3:Int).toNat IntKind.i64.bits)))]).bind fun H7=>j1 rec k (l0 rec k n) x3 x14 x15 x16 y1_0 y1_1 y1_2 H7 else none else j1 rec k (l0 rec k n) x3 x14 x15 x16 y1_0 y1_1 y1_2 H6 else none else none else j2 rec k x3 H
noncomputable def f (rec:Rec) (k:Nat) (a0_0:Int) (a0_1:Sl) (a0_2:Sl) (H:Hp):An:=(rec impl_PuzzleValid.id [.agg [.int .i64 a0_0,.sl 1 a0_1,.sl 3 a0_2]] H).bind fun r1=>r1.1.toB.bind fun b2=>bif !b2 then some (.sl 1 Sl.none,r1.2) else if 0 ≤ ((a0_1.len:Int):Int)∧((a0_1.len:Int):Int) ≤ (a0_1.len:Int)∧((a0_1.len:Int):Int) ≤ 1073741824∧8 ≤ 8192∧0 < 1 then l0 rec k k (Sl.mk false r1.2.length 0 ((a0_1.len:Int):Int).toNat) a0_1 (a0_1.len:Int) 0 a0_0 a0_1 a0_2 (r1.2 ++ [some (Blk.mk false (List.replicate ((a0_1.len:Int):Int).toNat [.int .i64 0]).flatten)]) else none
theorem j1_eq (rec:Rec) (k:Nat) (n0:Nat) (L0:Sl→Sl→Int→Int→Int→Sl→Sl→Hp→An) (hL0:∀ x3 x14 x15 x16 y1_0 y1_1 y1_2 H,L0 x3 x14 x15 x16 y1_0 y1_1 y1_2 H=iter (o.at (lbody (sub body [1,1,1,0,1,0]))) (ex PP o rec k (lbody (sub body [1,1,1,0,1,0]))) (kAt PP o rec k body [1,1,1,0,1,0] [] (K0 PP Go.Proofs.Try.f54)) n0 (St.of 36 [(1,.lp 1 0),(3,.sl 1 x3),(14,.sl 1 x14),(15,.int .i64 x15),(16,.int .i64 x16)] [(1,[.int .i64 y1_0,.sl 1 y1_1,.sl 3 y1_2])]) H):∀ x3 x14 x15 x16 y1_0 y1_1 y1_2 H,j1 rec k L0 x3 x14 x15 x16 y1_0 y1_1 y1_2 H=ex PP o rec k (sub body [1,1,1,0,1,0,0,1,1,1]) (St.of 36 [(1,.lp 1 0),(3,.sl 1 x3),(14,.sl 1 x14),(15,.int .i64 x15),(16,.int .i64 x16)] [(1,[.int .i64 y1_0,.sl 1 y1_1,.sl 3 y1_2])]) H (kAt PP o rec k body [1,1,1,0,1,0,0,1,1,1] [n0] (K0 PP Go.Proofs.Try.f54)):=by
 intros x3 x14 x15 x16 y1_0 y1_1 y1_2 H
 unfold j1
 try simp only [hL0,-eq_self]
 kernel_rfl
theorem j2_eq (rec:Rec) (k:Nat):∀ x3 H,j2 rec k x3 H=ex PP o rec k (sub body [1,1,1,1]) (St.of 36 [(3,.sl 1 x3)] []) H (kAt PP o rec k body [1,1,1,1] [] (K0 PP Go.Proofs.Try.f54)):=by
 intros x3 H
 unfold j2
 kernel_rfl
theorem l0_eq (rec:Rec) (k:Nat):∀ n x3 x14 x15 x16 y1_0 y1_1 y1_2 H,l0 rec k n x3 x14 x15 x16 y1_0 y1_1 y1_2 H=iter (o.at (lbody (sub body [1,1,1,0,1,0]))) (ex PP o rec k (lbody (sub body [1,1,1,0,1,0]))) (kAt PP o rec k body [1,1,1,0,1,0] [] (K0 PP Go.Proofs.Try.f54)) n (St.of 36 [(1,.lp 1 0),(3,.sl 1 x3),(14,.sl 1 x14),(15,.int .i64 x15),(16,.int .i64 x16)] [(1,[.int .i64 y1_0,.sl 1 y1_1,.sl 3 y1_2])]) H:=by
 intro n
 induction n with
 | zero=>intros; rfl
 | succ n ih=>
  intros x3 x14 x15 x16 y1_0 y1_1 y1_2 H
  simp only [l0,j1_eq rec k n (l0 rec k n) (fun x3 x14 x15 x16 y1_0 y1_1 y1_2 H=>ih x3 x14 x15 x16 y1_0 y1_1 y1_2 H),j2_eq rec k,ih,-eq_self]
  kernel_rfl
theorem f_eq (rec:Rec) (k:Nat):∀ a0_0 a0_1 a0_2 H,f rec k a0_0 a0_1 a0_2 H=ex PP o rec k body (St.of 36 [(0,.agg [.int .i64 a0_0,.sl 1 a0_1,.sl 3 a0_2])] []) H (K0 PP Go.Proofs.Try.f54):=by
 intros a0_0 a0_1 a0_2 H
 unfold f
 try simp only [l0_eq rec k,-eq_self]
 kernel_rfl
theorem call (k:Nat):∀ a0_0 a0_1 a0_2 H,callF PP orc (k + 1) impl_StartMasks.id [.agg [.int .i64 a0_0,.sl 1 a0_1,.sl 3 a0_2]] H=f (callF PP orc k) k a0_0 a0_1 a0_2 H:=by
 intros a0_0 a0_1 a0_2 H
 rw [callF_at (fn:=Go.Proofs.Try.f54) (c:=body) Go.Proofs.Try.func54 (by kernel_rfl) (Nat.le_of_ble_eq_true (by kernel_rfl)),f_eq]
 kernel_rfl
end impl_StartMasks
namespace laws_sameInts
noncomputable def body:Code:=(Go.Proofs.Try.f32).body.getD .skip
abbrev o:=orc laws_sameInts.id
noncomputable def l0 (rec:Rec) (k:Nat):Nat→Sl→Sl→Int→Hp→An
 | 0,_,_,_,_=>none
 | n + 1,x0,x1,x5,H=>bif decide (x5 < (x0.len:Int)) then bif decide (0 ≤ (x5:Int)) && decide ((x5:Int) < x0.len) then (ldI .i64 H x0.blk (x0.off + (x5:Int).toNat * 1)).bind fun n1=>bif decide (0 ≤ (x5:Int)) && decide ((x5:Int) < x1.len) then (ldI .i64 H x1.blk (x1.off + (x5:Int).toNat * 1)).bind fun n2=>bif n1 != n2 then some (.bool false,H) else (l0 rec k n) x0 x1 (IntKind.i64.wrap (x5 + 1)) H else none else none else some (.bool true,H)
noncomputable def f (rec:Rec) (k:Nat) (a0:Sl) (a1:Sl) (H:Hp):An:=bif (a0.len:Int) != (a1.len:Int) then some (.bool false,H) else l0 rec k k a0 a1 0 H
theorem l0_eq (rec:Rec) (k:Nat):∀ n x0 x1 x5 H,l0 rec k n x0 x1 x5 H=iter (o.at (lbody (sub body [1,1,0,1,0]))) (ex PP o rec k (lbody (sub body [1,1,0,1,0]))) (kAt PP o rec k body [1,1,0,1,0] [] (K0 PP Go.Proofs.Try.f32)) n (St.of 26 [(0,.sl 1 x0),(1,.sl 1 x1),(5,.int .i64 x5)] []) H:=by
 intro n
 induction n with
 | zero=>intros; rfl
 | succ n ih=>
  intros x0 x1 x5 H
  simp only [l0,ih,-eq_self]
  kernel_rfl
theorem f_eq (rec:Rec) (k:Nat):∀ a0 a1 H,f rec k a0 a1 H=ex PP o rec k body (St.of 26 [(0,.sl 1 a0),(1,.sl 1 a1)] []) H (K0 PP Go.Proofs.Try.f32):=by
 intros a0 a1 H
 unfold f
 try simp only [l0_eq rec k,-eq_self]
 kernel_rfl
theorem call (k:Nat):∀ a0 a1 H,callF PP orc (k + 1) laws_sameInts.id [.sl 1 a0,.sl 1 a1] H=f (callF PP orc k) k a0 a1 H:=by
 intros a0 a1 H
 rw [callF_at (fn:=Go.Proofs.Try.f32) (c:=body) Go.Proofs.Try.func32 (by kernel_rfl) (Nat.le_of_ble_eq_true (by kernel_rfl)),f_eq]
 kernel_rfl
end laws_sameInts
namespace laws_FnNarrowCandidates
noncomputable def body:Code:=(Go.Proofs.Try.f12).body.getD .skip
abbrev o:=orc laws_FnNarrowCandidates.id
noncomputable def j1 (rec:Rec) (k:Nat) (x4:Sl) (y3_0:Int) (y3_1:Sl) (y3_2:Sl) (H:Hp):An:=(rec impl_NarrowSingles.id [.sl 1 x4,.int .i64 y3_0] H).bind fun r15=>(r15.1.toS 1).bind fun s16=>(rec impl_CandidatesOf.id [.sl 1 y3_1,.int .i64 y3_0] r15.2).bind fun r17=>(r17.1.toS 1).bind fun s18=>(rec laws_sameInts.id [.sl 1 s16,.sl 1 s18] r17.2).bind fun r19=>r19.1.toB.bind fun b20=>some (.bool b20,r19.2)
noncomputable def j0 (rec:Rec) (k:Nat) (x4:Sl) (x27:Bool) (y3_0:Int) (y3_1:Sl) (y3_2:Sl) (H:Hp):An:=bif x27 then (rec laws_alive.id [] H).bind fun r13=>r13.1.toB.bind fun b14=>some (.bool b14,r13.2) else j1 rec k x4 y3_0 y3_1 y3_2 H
noncomputable def f (rec:Rec) (k:Nat) (a0:Sl) (H:Hp):An:=bif decide ((a0.len:Int) > 1048576) then some (.bool true,H) else (rec spec_DrawStartMasks.id [.sl 1 a0] H).bind fun r1=>bif r1.1.isAgg 3 then ((r1.1.cel 0).toI .i64).bind fun n2=>((r1.1.cel 1).toS 1).bind fun s3=>((r1.1.cel 2).toS 3).bind fun s4=>(rec impl_StartMasks.id [.agg [.int .i64 n2,.sl 1 s3,.sl 3 s4]] r1.2).bind fun r5=>(r5.1.toS 1).bind fun s6=>(rec spec_StartMasks.id [.agg [.int .i64 n2,.sl 1 s3,.sl 3 s4]] r5.2).bind fun r7=>(r7.1.toS 1).bind fun s8=>(rec laws_sameInts.id [.sl 1 s6,.sl 1 s8] r7.2).bind fun r9=>r9.1.toB.bind fun b10=>bif !b10 then some (.bool false,r9.2) else bif (s6.len:Int) == 0 then j0 rec k s6 true n2 s3 s4 r9.2 else (rec impl_SquareFits.id [.sl 1 s3,.int .i64 n2] r9.2).bind fun r11=>r11.1.toB.bind fun b12=>j0 rec k s6 (!b12) n2 s3 s4 r11.2 else none
theorem j1_eq (rec:Rec) (k:Nat):∀ x4 y3_0 y3_1 y3_2 H,j1 rec k x4 y3_0 y3_1 y3_2 H=ex PP o rec k (sub body [1,1,1,1,1,1]) (St.of 39 [(3,.lp 3 0),(4,.sl 1 x4)] [(3,[.int .i64 y3_0,.sl 1 y3_1,.sl 3 y3_2])]) H (kAt PP o rec k body [1,1,1,1,1,1] [] (K0 PP Go.Proofs.Try.f12)):=by
 intros x4 y3_0 y3_1 y3_2 H
 simp only [j1,-eq_self]
 kernel_rfl
theorem j0_eq (rec:Rec) (k:Nat):∀ x4 x27 y3_0 y3_1 y3_2 H,j0 rec k x4 x27 y3_0 y3_1 y3_2 H=ex PP o rec k (sub body [1,1,1,1,1,0,1]) (St.of 39 [(3,.lp 3 0),(4,.sl 1 x4),(27,.bool x27)] [(3,[.int .i64 y3_0,.sl 1 y3_1,.sl 3 y3_2])]) H (kAt PP o rec k body [1,1,1,1,1,0,1] [] (K0 PP Go.Proofs.Try.f12)):=by
 intros x4 x27 y3_0 y3_1 y3_2 H
 simp only [j0,j1,-eq_self]
 kernel_rfl
theorem f_eq (rec:Rec) (k:Nat):∀ a0 H,f rec k a0 H=ex PP o rec k body (St.of 39 [(0,.sl 1 a0)] []) H (K0 PP Go.Proofs.Try.f12):=by
 intros a0 H
 simp only [f,j0,j1,-eq_self]
 kernel_rfl
theorem call (k:Nat):∀ a0 H,callF PP orc (k + 1) laws_FnNarrowCandidates.id [.sl 1 a0] H=f (callF PP orc k) k a0 H:=by
 intros a0 H
 rw [callF_at (fn:=Go.Proofs.Try.f12) (c:=body) Go.Proofs.Try.func12 (by kernel_rfl) (Nat.le_of_ble_eq_true (by kernel_rfl)),f_eq]
 kernel_rfl
end laws_FnNarrowCandidates
end Go.Proofs.Ytjojhbdghhmeeaa.Rp
