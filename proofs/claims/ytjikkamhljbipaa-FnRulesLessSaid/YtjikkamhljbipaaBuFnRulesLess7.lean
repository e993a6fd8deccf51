/- Texts for the row of the law FnRulesLess, part 7: the plain machine, the program's functions on it, what they come to. No conditions. -/
import Derived.Test.YtjikkamhljbipaaAb
import Derived.Test.YtjikkamhljbipaaOr
/- Functions of the program as plain Lean functions. No conditions. -/
set_option linter.unusedVariables false
set_option linter.unusedSimpArgs false
set_option maxRecDepth 100000
namespace Go.Proofs.Ytjikkamhljbipaa.Rp
open Go Go.Proofs.Ytjikkamhljbipaa.Ab
noncomputable def laws_alive.body : Code := (Go.Proofs.Try.f17).body.getD .skip
noncomputable def laws_alive.f (rec : Rec) (k : Nat) (H : Hp) : An := (rec impl_GridFilled.id [.sl 1 (Sl.mk false H.length 0 4), .int .i64 2] (H ++ [some (Blk.mk false [.int .i64 1, .int .i64 0, .int .i64 0, .int .i64 2])])).bind fun r1 => (r1.1.toI .i64).bind fun n2 => some (.bool (n2 == 2), r1.2)
theorem laws_alive.f_eq (rec : Rec) (k : Nat) : ∀ H, laws_alive.f rec k H = ex PP (orc laws_alive.id) rec k laws_alive.body (St.of 4 [] []) H (K0 PP Go.Proofs.Try.f17) := by
  intros H
  unfold laws_alive.f
  kernel_rfl
theorem laws_alive.call (k : Nat) : ∀ H, callF PP orc (k + 1) laws_alive.id [] H = laws_alive.f (callF PP orc k) k H := by
  intros H
  rw [callF_at (fn := Go.Proofs.Try.f17) (c := laws_alive.body) Go.Proofs.Try.func17 (by kernel_rfl) (Nat.le_of_ble_eq_true (by kernel_rfl)), laws_alive.f_eq]
  kernel_rfl
end Go.Proofs.Ytjikkamhljbipaa.Rp
/- Functions of the program as plain Lean functions. No conditions. -/
set_option linter.unusedVariables false
set_option linter.unusedSimpArgs false
set_option maxRecDepth 100000
namespace Go.Proofs.Ytjikkamhljbipaa.Rp
open Go Go.Proofs.Ytjikkamhljbipaa.Ab
noncomputable def laws_FnRulesLess.body : Code := (Go.Proofs.Try.f4).body.getD .skip
noncomputable def laws_FnRulesLess.j1 (rec : Rec) (k : Nat) (y3_0 : Int) (y3_1 : Sl) (y3_2 : Sl) (H : Hp) : An := (rec spec_PuzzleValid.id [.agg [.int .i64 y3_0, .sl 1 y3_1, .sl 3 y3_2]] H).bind fun r13 => r13.1.toB.bind fun b14 => bif !b14 then (rec laws_alive.id [] r13.2).bind fun r15 => r15.1.toB.bind fun b16 => some (.bool b16, r15.2) else (rec impl_CountSolutions.id [.agg [.int .i64 y3_0, .sl 1 y3_1, .sl 3 y3_2], .int .i64 600] r13.2).bind fun r17 => (r17.1.toI .i64).bind fun n18 => (rec impl_CountSolutions.id [.agg [.int .i64 y3_0, .sl 1 y3_1, .sl 3 Sl.none], .int .i64 600] r17.2).bind fun r19 => (r19.1.toI .i64).bind fun n20 => bif decide (n20 ≥ n18) then if 0 ≤ ((y3_1.len : Int) : Int) ∧ ((y3_1.len : Int) : Int) ≤ (y3_1.len : Int) ∧ ((y3_1.len : Int) : Int) ≤ 1073741824 ∧ 8 ≤ 8192 ∧ 0 < 1 then (rec impl_CountSolutions.id [.agg [.int .i64 y3_0, .sl 1 (Sl.mk false r19.2.length 0 ((y3_1.len : Int) : Int).toNat), .sl 3 y3_2], .int .i64 600] (r19.2 ++ [some (Blk.mk false (List.replicate ((y3_1.len : Int) : Int).toNat [.int .i64 0]).flatten)])).bind fun r21 => (r21.1.toI .i64).bind fun n22 => some (.bool (decide (n22 ≥ n18)), r21.2) else none else some (.bool false, r19.2)
noncomputable def laws_FnRulesLess.j0 (rec : Rec) (k : Nat) (x32 : Bool) (y3_0 : Int) (y3_1 : Sl) (y3_2 : Sl) (H : Hp) : An := bif x32 then some (.bool false, H) else laws_FnRulesLess.j1 rec k y3_0 y3_1 y3_2 H
noncomputable def laws_FnRulesLess.f (rec : Rec) (k : Nat) (a0 : Sl) (H : Hp) : An := bif decide ((a0.len : Int) > 1048576) then some (.bool true, H) else (rec spec_DrawSolveFirst.id [.sl 1 a0] H).bind fun r1 => bif r1.1.isAgg 3 then ((r1.1.cel 0).toI .i64).bind fun n2 => ((r1.1.cel 1).toS 1).bind fun s3 => ((r1.1.cel 2).toS 3).bind fun s4 => (rec impl_SolveFirst.id [.agg [.int .i64 n2, .sl 1 s3, .sl 3 s4]] r1.2).bind fun r5 => bif r5.1.isTup 2 then ((r5.1.nth 0).toS 1).bind fun s6 => (r5.1.nth 1).toB.bind fun b7 => (rec spec_SolveFirst.id [.agg [.int .i64 n2, .sl 1 s3, .sl 3 s4]] r5.2).bind fun r8 => bif r8.1.isTup 2 then ((r8.1.nth 0).toS 1).bind fun s9 => (r8.1.nth 1).toB.bind fun b10 => (rec laws_sameInts.id [.sl 1 s6, .sl 1 s9] r8.2).bind fun r11 => r11.1.toB.bind fun b12 => bif !b12 then laws_FnRulesLess.j0 rec k true n2 s3 s4 r11.2 else laws_FnRulesLess.j0 rec k (!(b7 == b10)) n2 s3 s4 r11.2 else none else none else none
theorem laws_FnRulesLess.j1_eq (rec : Rec) (k : Nat) : ∀ y3_0 y3_1 y3_2 H, laws_FnRulesLess.j1 rec k y3_0 y3_1 y3_2 H = ex PP (orc laws_FnRulesLess.id) rec k (sub laws_FnRulesLess.body [1, 1, 1, 1, 1, 1]) (St.of 61 [(3, .lp 3 0)] [(3, [.int .i64 y3_0, .sl 1 y3_1, .sl 3 y3_2])]) H (kAt PP (orc laws_FnRulesLess.id) rec k laws_FnRulesLess.body [1, 1, 1, 1, 1, 1] [] (K0 PP Go.Proofs.Try.f4)) := by
  intros y3_0 y3_1 y3_2 H
  unfold laws_FnRulesLess.j1
  kernel_rfl
theorem laws_FnRulesLess.j0_eq (rec : Rec) (k : Nat) : ∀ x32 y3_0 y3_1 y3_2 H, laws_FnRulesLess.j0 rec k x32 y3_0 y3_1 y3_2 H = ex PP (orc laws_FnRulesLess.id) rec k (sub laws_FnRulesLess.body [1, 1, 1, 1, 1, 0, 1]) (St.of 61 [(3, .lp 3 0), (32, .bool x32)] [(3, [.int .i64 y3_0, .sl 1 y3_1, .sl 3 y3_2])]) H (kAt PP (orc laws_FnRulesLess.id) rec k laws_FnRulesLess.body [1, 1, 1, 1, 1, 0, 1] [] (K0 PP Go.Proofs.Try.f4)) := by
  intros x32 y3_0 y3_1 y3_2 H
  unfold laws_FnRulesLess.j0
  try simp only [laws_FnRulesLess.j1_eq rec k, -eq_self]
  kernel_rfl
theorem laws_FnRulesLess.f_eq (rec : Rec) (k : Nat) : ∀ a0 H, laws_FnRulesLess.f rec k a0 H = ex PP (orc laws_FnRulesLess.id) rec k laws_FnRulesLess.body (St.of 61 [(0, .sl 1 a0)] []) H (K0 PP Go.Proofs.Try.f4) := by
  intros a0 H
  unfold laws_FnRulesLess.f
  try simp only [laws_FnRulesLess.j0_eq rec k, -eq_self]
  kernel_rfl
theorem laws_FnRulesLess.call (k : Nat) : ∀ a0 H, callF PP orc (k + 1) laws_FnRulesLess.id [.sl 1 a0] H = laws_FnRulesLess.f (callF PP orc k) k a0 H := by
  intros a0 H
  rw [callF_at (fn := Go.Proofs.Try.f4) (c := laws_FnRulesLess.body) Go.Proofs.Try.func4 (by kernel_rfl) (Nat.le_of_ble_eq_true (by kernel_rfl)), laws_FnRulesLess.f_eq]
  kernel_rfl
noncomputable def spec_DrawSolveFirst.body : Code := (Go.Proofs.Try.f22).body.getD .skip
noncomputable def spec_DrawSolveFirst.f (rec : Rec) (k : Nat) (a0 : Sl) (H : Hp) : An := (rec spec_l20Open.id [.sl 1 a0] H).bind fun r1 => r1.1.toP.bind fun p2 => (rec spec_l20Puzzle.id [.ptr p2.1 p2.2, .int .i64 12] r1.2).bind fun r3 => bif r3.1.isAgg 3 then ((r3.1.cel 0).toI .i64).bind fun n4 => ((r3.1.cel 1).toS 1).bind fun s5 => ((r3.1.cel 2).toS 3).bind fun s6 => some (.agg [.int .i64 n4, .sl 1 s5, .sl 3 s6], r3.2) else none
theorem spec_DrawSolveFirst.f_eq (rec : Rec) (k : Nat) : ∀ a0 H, spec_DrawSolveFirst.f rec k a0 H = ex PP (orc spec_DrawSolveFirst.id) rec k spec_DrawSolveFirst.body (St.of 6 [(0, .sl 1 a0)] []) H (K0 PP Go.Proofs.Try.f22) := by
  intros a0 H
  unfold spec_DrawSolveFirst.f
  kernel_rfl
theorem spec_DrawSolveFirst.call (k : Nat) : ∀ a0 H, callF PP orc (k + 1) spec_DrawSolveFirst.id [.sl 1 a0] H = spec_DrawSolveFirst.f (callF PP orc k) k a0 H := by
  intros a0 H
  rw [callF_at (fn := Go.Proofs.Try.f22) (c := spec_DrawSolveFirst.body) Go.Proofs.Try.func22 (by kernel_rfl) (Nat.le_of_ble_eq_true (by kernel_rfl)), spec_DrawSolveFirst.f_eq]
  kernel_rfl
end Go.Proofs.Ytjikkamhljbipaa.Rp
