/- Texts for the row of the law FnIsRedundant, part 7: the plain machine, the program's functions on it, what they come to. No conditions. -/
import Derived.Test.YtpgdfpkkeioabaaAb
import Derived.Test.YtpgdfpkkeioabaaOr
/- Functions of the program as plain Lean functions. No conditions. -/
set_option linter.unusedVariables false
set_option linter.unusedSimpArgs false
set_option maxRecDepth 100000
namespace Go.Proofs.Ytpgdfpkkeioabaa.Rp
open Go Go.Proofs.Ytpgdfpkkeioabaa.Ab
noncomputable def laws_alive.body : Code := (Go.Proofs.Try.f17).body.getD .skip
noncomputable def laws_alive.f (rec : Rec) (k : Nat) (H : Hp) : An := (rec impl_GridFilled.id [.sl 1 (Sl.mk false H.length 0 4), .int .i64 2] (H ++ [some (Blk.mk false [.int .i64 1, .int .i64 0, .int .i64 0, .int .i64 2])])).bind fun r1 => (r1.1.toI .i64).bind fun n2 => some (.bool (n2 == 2), r1.2)
theorem laws_alive.f_eq (rec : Rec) (k : Nat) : ∀ H, laws_alive.f rec k H = ex PP (orc laws_alive.id) rec k laws_alive.body (St.of 4 [] []) H (K0 PP Go.Proofs.Try.f17) := by
  intros H
  unfold laws_alive.f
  kernel_rfl
theorem laws_alive.call (k : Nat) : ∀ H, callF PP orc (k + 1) laws_alive.id [] H = laws_alive.f (callF PP orc k) k H := by
  intros H
  rw [callF_at (fn := Go.Proofs.Try.f17) (c := laws_alive.body) Go.Proofs.Try.func17 (by kernel_rfl) (Nat.le_of_ble_eq_true (by kernel_rfl)), laws_alive.f_eq]
  kernel_rfl
end Go.Proofs.Ytpgdfpkkeioabaa.Rp
/- Functions of the program as plain Lean functions. No conditions. -/
set_option linter.unusedVariables false
set_option linter.unusedSimpArgs false
set_option maxRecDepth 100000
namespace Go.Proofs.Ytpgdfpkkeioabaa.Rp
open Go Go.Proofs.Ytpgdfpkkeioabaa.Ab
noncomputable def laws_sameInts.body : Code := (Go.Proofs.Try.f15).body.getD .skip
noncomputable def laws_sameInts.l0 (rec : Rec) (k : Nat) : Nat → Sl → Sl → Int → Hp → An
  | 0, _, _, _, _ => none
  | n + 1, x0, x1, x5, H => bif decide (x5 < (x0.len : Int)) then bif decide (0 ≤ (x5 : Int)) && decide ((x5 : Int) < x0.len) then (ldI .i64 H x0.blk (x0.off + (x5 : Int).toNat * 1)).bind fun n1 => bif decide (0 ≤ (x5 : Int)) && decide ((x5 : Int) < x1.len) then (ldI .i64 H x1.blk (x1.off + (x5 : Int).toNat * 1)).bind fun n2 => bif n1 != n2 then some (.bool false, H) else (laws_sameInts.l0 rec k n) x0 x1 (IntKind.i64.wrap (x5 + 1)) H else none else none else some (.bool true, H)
noncomputable def laws_sameInts.f (rec : Rec) (k : Nat) (a0 : Sl) (a1 : Sl) (H : Hp) : An := bif (a0.len : Int) != (a1.len : Int) then some (.bool false, H) else laws_sameInts.l0 rec k k a0 a1 0 H
theorem laws_sameInts.l0_eq (rec : Rec) (k : Nat) : ∀ n x0 x1 x5 H, laws_sameInts.l0 rec k n x0 x1 x5 H = iter ((orc laws_sameInts.id).at (lbody (sub laws_sameInts.body [1, 1, 0, 1, 0]))) (ex PP (orc laws_sameInts.id) rec k (lbody (sub laws_sameInts.body [1, 1, 0, 1, 0]))) (kAt PP (orc laws_sameInts.id) rec k laws_sameInts.body [1, 1, 0, 1, 0] [] (K0 PP Go.Proofs.Try.f15)) n (St.of 26 [(0, .sl 1 x0), (1, .sl 1 x1), (5, .int .i64 x5)] []) H := by
  intro n
  induction n with
  | zero => intros; rfl
  | succ n ih =>
    intros x0 x1 x5 H
    simp only [laws_sameInts.l0, ih, -eq_self]
    kernel_rfl
theorem laws_sameInts.f_eq (rec : Rec) (k : Nat) : ∀ a0 a1 H, laws_sameInts.f rec k a0 a1 H = ex PP (orc laws_sameInts.id) rec k laws_sameInts.body (St.of 26 [(0, .sl 1 a0), (1, .sl 1 a1)] []) H (K0 PP Go.Proofs.Try.f15) := by
  intros a0 a1 H
  unfold laws_sameInts.f
  try simp only [laws_sameInts.l0_eq rec k, -eq_self]
  kernel_rfl
theorem laws_sameInts.call (k : Nat) : ∀ a0 a1 H, callF PP orc (k + 1) laws_sameInts.id [.sl 1 a0, .sl 1 a1] H = laws_sameInts.f (callF PP orc k) k a0 a1 H := by
  intros a0 a1 H
  rw [callF_at (fn := Go.Proofs.Try.f15) (c := laws_sameInts.body) Go.Proofs.Try.func15 (by kernel_rfl) (Nat.le_of_ble_eq_true (by kernel_rfl)), laws_sameInts.f_eq]
  kernel_rfl
end Go.Proofs.Ytpgdfpkkeioabaa.Rp
/- Functions of the program as plain Lean functions. No conditions. -/
set_option linter.unusedVariables false
set_option linter.unusedSimpArgs false
set_option maxRecDepth 100000
namespace Go.Proofs.Ytpgdfpkkeioabaa.Rp
open Go Go.Proofs.Ytpgdfpkkeioabaa.Ab
noncomputable def laws_FnIsRedundant.body : Code := (Go.Proofs.Try.f7).body.getD .skip
noncomputable def laws_FnIsRedundant.j1 (rec : Rec) (k : Nat) (x4 : Int) (y3_0 : Int) (y3_1 : Sl) (y3_2 : Sl) (H : Hp) : An := (H.read 1 y3_1).bind fun c14 => (H.appl 1 [] 0 y3_1.len c14).bind fun w13 => bif true && c14.all AV.cell then bif decide (0 ≤ (x4 : Int)) && decide ((x4 : Int) < w13.1.len) then (w13.2.sto w13.1.blk (w13.1.off + (x4 : Int).toNat * 1) [.int .i64 0]).bind fun H15 => (rec impl_SolveFirst.id [.agg [.int .i64 y3_0, .sl 1 y3_1, .sl 3 y3_2]] H15).bind fun r16 => bif r16.1.isTup 2 then ((r16.1.nth 0).toS 1).bind fun s17 => (r16.1.nth 1).toB.bind fun b18 => (rec impl_SolveFirst.id [.agg [.int .i64 y3_0, .sl 1 w13.1, .sl 3 y3_2]] r16.2).bind fun r19 => bif r19.1.isTup 2 then ((r19.1.nth 0).toS 1).bind fun s20 => (r19.1.nth 1).toB.bind fun b21 => (rec laws_sameInts.id [.sl 1 s17, .sl 1 s20] r19.2).bind fun r22 => r22.1.toB.bind fun b23 => bif b23 then (rec impl_CountSolutions.id [.agg [.int .i64 y3_0, .sl 1 w13.1, .sl 3 y3_2], .int .i64 2] r22.2).bind fun r24 => (r24.1.toI .i64).bind fun n25 => some (.bool (n25 == 1), r24.2) else some (.bool false, r22.2) else none else none else none else none
noncomputable def laws_FnIsRedundant.j0 (rec : Rec) (k : Nat) (x4 : Int) (x47 : Bool) (y3_0 : Int) (y3_1 : Sl) (y3_2 : Sl) (H : Hp) : An := bif x47 then some (.bool false, H) else laws_FnIsRedundant.j1 rec k x4 y3_0 y3_1 y3_2 H
noncomputable def laws_FnIsRedundant.f (rec : Rec) (k : Nat) (a0 : Sl) (H : Hp) : An := bif decide ((a0.len : Int) > 1048576) then some (.bool true, H) else (rec spec_DrawIsRedundant.id [.sl 1 a0] H).bind fun r1 => bif r1.1.isTup 2 then bif (r1.1.nth 0).isAgg 3 then (((r1.1.nth 0).cel 0).toI .i64).bind fun n2 => (((r1.1.nth 0).cel 1).toS 1).bind fun s3 => (((r1.1.nth 0).cel 2).toS 3).bind fun s4 => ((r1.1.nth 1).toI .i64).bind fun n5 => (rec impl_IsRedundant.id [.agg [.int .i64 n2, .sl 1 s3, .sl 3 s4], .int .i64 n5] r1.2).bind fun r6 => r6.1.toB.bind fun b7 => (rec spec_IsRedundant.id [.agg [.int .i64 n2, .sl 1 s3, .sl 3 s4], .int .i64 n5] r6.2).bind fun r8 => r8.1.toB.bind fun b9 => bif !(b7 == b9) then some (.bool false, r8.2) else bif !b7 then (rec laws_alive.id [] r8.2).bind fun r10 => r10.1.toB.bind fun b11 => some (.bool b11, r10.2) else bif decide (n5 < 0) then laws_FnIsRedundant.j0 rec k n5 true n2 s3 s4 r8.2 else bif decide (n5 ≥ (s3.len : Int)) then laws_FnIsRedundant.j0 rec k n5 true n2 s3 s4 r8.2 else bif decide (0 ≤ (n5 : Int)) && decide ((n5 : Int) < s3.len) then (ldI .i64 r8.2 s3.blk (s3.off + (n5 : Int).toNat * 1)).bind fun n12 => laws_FnIsRedundant.j0 rec k n5 (n12 == 0) n2 s3 s4 r8.2 else none else none else none
theorem laws_FnIsRedundant.j1_eq (rec : Rec) (k : Nat) : ∀ x4 y3_0 y3_1 y3_2 H, laws_FnIsRedundant.j1 rec k x4 y3_0 y3_1 y3_2 H = ex PP (orc laws_FnIsRedundant.id) rec k (sub laws_FnIsRedundant.body [1, 1, 1, 1, 1, 1, 1]) (St.of 79 [(3, .lp 3 0), (4, .int .i64 x4)] [(3, [.int .i64 y3_0, .sl 1 y3_1, .sl 3 y3_2])]) H (kAt PP (orc laws_FnIsRedundant.id) rec k laws_FnIsRedundant.body [1, 1, 1, 1, 1, 1, 1] [] (K0 PP Go.Proofs.Try.f7)) := by
  intros x4 y3_0 y3_1 y3_2 H
  unfold laws_FnIsRedundant.j1
  kernel_rfl
theorem laws_FnIsRedundant.j0_eq (rec : Rec) (k : Nat) : ∀ x4 x47 y3_0 y3_1 y3_2 H, laws_FnIsRedundant.j0 rec k x4 x47 y3_0 y3_1 y3_2 H = ex PP (orc laws_FnIsRedundant.id) rec k (sub laws_FnIsRedundant.body [1, 1, 1, 1, 1, 1, 0, 1]) (St.of 79 [(3, .lp 3 0), (4, .int .i64 x4), (47, .bool x47)] [(3, [.int .i64 y3_0, .sl 1 y3_1, .sl 3 y3_2])]) H (kAt PP (orc laws_FnIsRedundant.id) rec k laws_FnIsRedundant.body [1, 1, 1, 1, 1, 1, 0, 1] [] (K0 PP Go.Proofs.Try.f7)) := by
  intros x4 x47 y3_0 y3_1 y3_2 H
  unfold laws_FnIsRedundant.j0
  try simp only [laws_FnIsRedundant.j1_eq rec k, -eq_self]
  kernel_rfl
theorem laws_FnIsRedundant.f_eq (rec : Rec) (k : Nat) : ∀ a0 H, laws_FnIsRedundant.f rec k a0 H = ex PP (orc laws_FnIsRedundant.id) rec k laws_FnIsRedundant.body (St.of 79 [(0, .sl 1 a0)] []) H (K0 PP Go.Proofs.Try.f7) := by
  intros a0 H
  unfold laws_FnIsRedundant.f
  try simp only [laws_FnIsRedundant.j0_eq rec k, -eq_self]
  kernel_rfl
theorem laws_FnIsRedundant.call (k : Nat) : ∀ a0 H, callF PP orc (k + 1) laws_FnIsRedundant.id [.sl 1 a0] H = laws_FnIsRedundant.f (callF PP orc k) k a0 H := by
  intros a0 H
  rw [callF_at (fn := Go.Proofs.Try.f7) (c := laws_FnIsRedundant.body) Go.Proofs.Try.func7 (by kernel_rfl) (Nat.le_of_ble_eq_true (by kernel_rfl)), laws_FnIsRedundant.f_eq]
  kernel_rfl
noncomputable def spec_DrawIsRedundant.body : Code := (Go.Proofs.Try.f33).body.getD .skip
noncomputable def spec_DrawIsRedundant.f (rec : Rec) (k : Nat) (a0 : Sl) (H : Hp) : An := (rec spec_l20Open.id [.sl 1 a0] H).bind fun r1 => r1.1.toP.bind fun p2 => (rec spec_l20Puzzle.id [.ptr p2.1 p2.2, .int .i64 12] r1.2).bind fun r3 => bif r3.1.isAgg 3 then ((r3.1.cel 0).toI .i64).bind fun n4 => ((r3.1.cel 1).toS 1).bind fun s5 => ((r3.1.cel 2).toS 3).bind fun s6 => (rec spec_l20Rd_pick.id [.ptr p2.1 p2.2, .int .i64 18] r3.2).bind fun r7 => (r7.1.toI .i64).bind fun n8 => some (.tup [.agg [.int .i64 n4, .sl 1 s5, .sl 3 s6], .int .i64 (IntKind.i64.wrap (n8 - 1))], r7.2) else none
theorem spec_DrawIsRedundant.f_eq (rec : Rec) (k : Nat) : ∀ a0 H, spec_DrawIsRedundant.f rec k a0 H = ex PP (orc spec_DrawIsRedundant.id) rec k spec_DrawIsRedundant.body (St.of 14 [(0, .sl 1 a0)] []) H (K0 PP Go.Proofs.Try.f33) := by
  intros a0 H
  unfold spec_DrawIsRedundant.f
  kernel_rfl
theorem spec_DrawIsRedundant.call (k : Nat) : ∀ a0 H, callF PP orc (k + 1) spec_DrawIsRedundant.id [.sl 1 a0] H = spec_DrawIsRedundant.f (callF PP orc k) k a0 H := by
  intros a0 H
  rw [callF_at (fn := Go.Proofs.Try.f33) (c := spec_DrawIsRedundant.body) Go.Proofs.Try.func33 (by kernel_rfl) (Nat.le_of_ble_eq_true (by kernel_rfl)), spec_DrawIsRedundant.f_eq]
  kernel_rfl
end Go.Proofs.Ytpgdfpkkeioabaa.Rp
