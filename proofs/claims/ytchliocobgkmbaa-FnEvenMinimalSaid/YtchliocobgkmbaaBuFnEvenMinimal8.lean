/- Texts for the row of the law FnEvenMinimal, part 8: the plain machine, the program's functions on it, what they come to. No conditions. -/
import Derived.Test.YtchliocobgkmbaaAb
import Derived.Test.YtchliocobgkmbaaOr
/- Functions of the program as plain Lean functions. No conditions. -/
set_option linter.unusedVariables false
set_option linter.unusedSimpArgs false
set_option maxRecDepth 100000
namespace Go.Proofs.Ytchliocobgkmbaa.Rp
open Go Go.Proofs.Ytchliocobgkmbaa.Ab
noncomputable def laws_alive.body : Code := (Go.Proofs.Try.f17).body.getD .skip
noncomputable def laws_alive.f (rec : Rec) (k : Nat) (H : Hp) : An := (rec impl_GridFilled.id [.sl 1 (Sl.mk false H.length 0 4), .int .i64 2] (H ++ [some (Blk.mk false [.int .i64 1, .int .i64 0, .int .i64 0, .int .i64 2])])).bind fun r1 => (r1.1.toI .i64).bind fun n2 => some (.bool (n2 == 2), r1.2)
theorem laws_alive.f_eq (rec : Rec) (k : Nat) : ∀ H, laws_alive.f rec k H = ex PP (orc laws_alive.id) rec k laws_alive.body (St.of 4 [] []) H (K0 PP Go.Proofs.Try.f17) := by
  intros H
  unfold laws_alive.f
  kernel_rfl
theorem laws_alive.call (k : Nat) : ∀ H, callF PP orc (k + 1) laws_alive.id [] H = laws_alive.f (callF PP orc k) k H := by
  intros H
  rw [callF_at (fn := Go.Proofs.Try.f17) (c := laws_alive.body) Go.Proofs.Try.func17 (by kernel_rfl) (Nat.le_of_ble_eq_true (by kernel_rfl)), laws_alive.f_eq]
  kernel_rfl
end Go.Proofs.Ytchliocobgkmbaa.Rp
/- Functions of the program as plain Lean functions. No conditions. -/
set_option linter.unusedVariables false
set_option linter.unusedSimpArgs false
set_option maxRecDepth 100000
namespace Go.Proofs.Ytchliocobgkmbaa.Rp
open Go Go.Proofs.Ytchliocobgkmbaa.Ab
noncomputable def laws_FnEvenMinimal.body : Code := (Go.Proofs.Try.f4).body.getD .skip
noncomputable def laws_FnEvenMinimal.j1 (rec : Rec) (k : Nat) (x5 : Bool) (y3_0 : Int) (y3_1 : Sl) (y3_2 : Sl) (y4_0 : Int) (y4_1 : Sl) (y4_2 : Sl) (H : Hp) : An := bif !x5 then (rec laws_alive.id [] H).bind fun r17 => r17.1.toB.bind fun b18 => some (.bool b18, r17.2) else (rec impl_MakeMinimal.id [.agg [.int .i64 y4_0, .sl 1 y4_1, .sl 3 y4_2]] H).bind fun r19 => bif r19.1.isTup 2 then bif (r19.1.nth 0).isAgg 3 then (((r19.1.nth 0).cel 0).toI .i64).bind fun n20 => (((r19.1.nth 0).cel 1).toS 1).bind fun s21 => (((r19.1.nth 0).cel 2).toS 3).bind fun s22 => (r19.1.nth 1).toB.bind fun b23 => (rec impl_SolveFirst.id [.agg [.int .i64 y3_0, .sl 1 y3_1, .sl 3 y3_2]] r19.2).bind fun r24 => bif r24.1.isTup 2 then ((r24.1.nth 0).toS 1).bind fun s25 => (r24.1.nth 1).toB.bind fun b26 => (rec impl_SolveFirst.id [.agg [.int .i64 n20, .sl 1 s21, .sl 3 s22]] r24.2).bind fun r27 => bif r27.1.isTup 2 then ((r27.1.nth 0).toS 1).bind fun s28 => (r27.1.nth 1).toB.bind fun b29 => bif b23 then (rec laws_sameInts.id [.sl 1 s25, .sl 1 s28] r27.2).bind fun r30 => r30.1.toB.bind fun b31 => bif b31 then (rec impl_GridFilled.id [.sl 1 s21, .int .i64 n20] r30.2).bind fun r32 => (r32.1.toI .i64).bind fun n33 => (rec impl_GridFilled.id [.sl 1 y4_1, .int .i64 y4_0] r32.2).bind fun r34 => (r34.1.toI .i64).bind fun n35 => some (.bool (decide (n33 ≤ n35)), r34.2) else some (.bool false, r30.2) else some (.bool false, r27.2) else none else none else none else none
noncomputable def laws_FnEvenMinimal.j0 (rec : Rec) (k : Nat) (x5 : Bool) (x37 : Bool) (y3_0 : Int) (y3_1 : Sl) (y3_2 : Sl) (y4_0 : Int) (y4_1 : Sl) (y4_2 : Sl) (H : Hp) : An := bif x37 then some (.bool false, H) else laws_FnEvenMinimal.j1 rec k x5 y3_0 y3_1 y3_2 y4_0 y4_1 y4_2 H
noncomputable def laws_FnEvenMinimal.f (rec : Rec) (k : Nat) (a0 : Sl) (H : Hp) : An := bif decide ((a0.len : Int) > 1048576) then some (.bool true, H) else (rec spec_DrawMakeEven.id [.sl 1 a0] H).bind fun r1 => bif r1.1.isAgg 3 then ((r1.1.cel 0).toI .i64).bind fun n2 => ((r1.1.cel 1).toS 1).bind fun s3 => ((r1.1.cel 2).toS 3).bind fun s4 => (rec impl_MakeEven.id [.agg [.int .i64 n2, .sl 1 s3, .sl 3 s4]] r1.2).bind fun r5 => bif r5.1.isTup 2 then bif (r5.1.nth 0).isAgg 3 then (((r5.1.nth 0).cel 0).toI .i64).bind fun n6 => (((r5.1.nth 0).cel 1).toS 1).bind fun s7 => (((r5.1.nth 0).cel 2).toS 3).bind fun s8 => (r5.1.nth 1).toB.bind fun b9 => (rec spec_MakeEven.id [.agg [.int .i64 n2, .sl 1 s3, .sl 3 s4]] r5.2).bind fun r10 => bif r10.1.isTup 2 then bif (r10.1.nth 0).isAgg 3 then (((r10.1.nth 0).cel 0).toI .i64).bind fun n11 => (((r10.1.nth 0).cel 1).toS 1).bind fun s12 => (((r10.1.nth 0).cel 2).toS 3).bind fun s13 => (r10.1.nth 1).toB.bind fun b14 => (rec laws_samePuzzle.id [.agg [.int .i64 n6, .sl 1 s7, .sl 3 s8], .agg [.int .i64 n11, .sl 1 s12, .sl 3 s13]] r10.2).bind fun r15 => r15.1.toB.bind fun b16 => bif !b16 then laws_FnEvenMinimal.j0 rec k b9 true n2 s3 s4 n6 s7 s8 r15.2 else laws_FnEvenMinimal.j0 rec k b9 (!(b9 == b14)) n2 s3 s4 n6 s7 s8 r15.2 else none else none else none else none else none
theorem laws_FnEvenMinimal.j1_eq (rec : Rec) (k : Nat) : ∀ x5 y3_0 y3_1 y3_2 y4_0 y4_1 y4_2 H, laws_FnEvenMinimal.j1 rec k x5 y3_0 y3_1 y3_2 y4_0 y4_1 y4_2 H = ex PP (orc laws_FnEvenMinimal.id) rec k (sub laws_FnEvenMinimal.body [1, 1, 1, 1, 1, 1]) (St.of 75 [(3, .lp 3 0), (4, .lp 4 0), (5, .bool x5)] [(3, [.int .i64 y3_0, .sl 1 y3_1, .sl 3 y3_2]), (4, [.int .i64 y4_0, .sl 1 y4_1, .sl 3 y4_2])]) H (kAt PP (orc laws_FnEvenMinimal.id) rec k laws_FnEvenMinimal.body [1, 1, 1, 1, 1, 1] [] (K0 PP Go.Proofs.Try.f4)) := by
  intros x5 y3_0 y3_1 y3_2 y4_0 y4_1 y4_2 H
  unfold laws_FnEvenMinimal.j1
  kernel_rfl
theorem laws_FnEvenMinimal.j0_eq (rec : Rec) (k : Nat) : ∀ x5 x37 y3_0 y3_1 y3_2 y4_0 y4_1 y4_2 H, laws_FnEvenMinimal.j0 rec k x5 x37 y3_0 y3_1 y3_2 y4_0 y4_1 y4_2 H = ex PP (orc laws_FnEvenMinimal.id) rec k (sub laws_FnEvenMinimal.body [1, 1, 1, 1, 1, 0, 1]) (St.of 75 [(3, .lp 3 0), (4, .lp 4 0), (5, .bool x5), (37, .bool x37)] [(3, [.int .i64 y3_0, .sl 1 y3_1, .sl 3 y3_2]), (4, [.int .i64 y4_0, .sl 1 y4_1, .sl 3 y4_2])]) H (kAt PP (orc laws_FnEvenMinimal.id) rec k laws_FnEvenMinimal.body [1, 1, 1, 1, 1, 0, 1] [] (K0 PP Go.Proofs.Try.f4)) := by
  intros x5 x37 y3_0 y3_1 y3_2 y4_0 y4_1 y4_2 H
  unfold laws_FnEvenMinimal.j0
  try simp only [laws_FnEvenMinimal.j1_eq rec k, -eq_self]
  kernel_rfl
theorem laws_FnEvenMinimal.f_eq (rec : Rec) (k : Nat) : ∀ a0 H, laws_FnEvenMinimal.f rec k a0 H = ex PP (orc laws_FnEvenMinimal.id) rec k laws_FnEvenMinimal.body (St.of 75 [(0, .sl 1 a0)] []) H (K0 PP Go.Proofs.Try.f4) := by
  intros a0 H
  unfold laws_FnEvenMinimal.f
  try simp only [laws_FnEvenMinimal.j0_eq rec k, -eq_self]
  kernel_rfl
theorem laws_FnEvenMinimal.call (k : Nat) : ∀ a0 H, callF PP orc (k + 1) laws_FnEvenMinimal.id [.sl 1 a0] H = laws_FnEvenMinimal.f (callF PP orc k) k a0 H := by
  intros a0 H
  rw [callF_at (fn := Go.Proofs.Try.f4) (c := laws_FnEvenMinimal.body) Go.Proofs.Try.func4 (by kernel_rfl) (Nat.le_of_ble_eq_true (by kernel_rfl)), laws_FnEvenMinimal.f_eq]
  kernel_rfl
end Go.Proofs.Ytchliocobgkmbaa.Rp
