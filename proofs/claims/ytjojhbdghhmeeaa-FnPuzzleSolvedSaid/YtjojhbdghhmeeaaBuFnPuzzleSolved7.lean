/- Texts for the row of the law FnPuzzleSolved, part 7: the plain machine, the program's functions on it, what they come to. No conditions. -/
import Derived.Test.YtjojhbdghhmeeaaAb
import Derived.Test.YtjojhbdghhmeeaaOr
/- Functions of the program as plain Lean functions. No conditions. -/
set_option linter.unusedVariables false
set_option linter.unusedSimpArgs false
set_option maxRecDepth 100000
namespace Go.Proofs.Ytjojhbdghhmeeaa.Rp
open Go Go.Proofs.Ytjojhbdghhmeeaa.Ab
noncomputable def impl_RuleHolds.body : Code := (Go.Proofs.Try.f65).body.getD .skip
noncomputable def impl_RuleHolds.j3 (rec : Rec) (k : Nat) (x7 : Sl) (y3_0 : Int) (y3_1 : Sl) (y3_2 : Int) (H : Hp) : An := (rec impl_valuesHold.id [.agg [.int .i64 y3_0, .sl 1 y3_1, .int .i64 y3_2], .sl 1 x7] H).bind fun r9 => r9.1.toB.bind fun b10 => some (.bool b10, r9.2)
noncomputable def impl_RuleHolds.l2 (rec : Rec) (k : Nat) : Nat → Sl → Sl → Sl → Int → Int → Int → Sl → Int → Hp → An
  | 0, _, _, _, _, _, _, _, _, _ => none
  | n + 1, x1, x7, x22, x23, x24, y3_0, y3_1, y3_2, H => bif decide (x24 < x23) then bif decide (0 ≤ (x24 : Int)) && decide ((x24 : Int) < x22.len) then (ldI .i64 H x22.blk (x22.off + (x24 : Int).toNat * 1)).bind fun n5 => bif decide (0 ≤ (n5 : Int)) && decide ((n5 : Int) < x1.len) then (ldI .i64 H x1.blk (x1.off + (n5 : Int).toNat * 1)).bind fun n6 => bif n6 == 0 then some (.bool false, H) else bif decide (0 ≤ (n5 : Int)) && decide ((n5 : Int) < x1.len) then (ldI .i64 H x1.blk (x1.off + (n5 : Int).toNat * 1)).bind fun n7 => (H.app 1 x7 1 [.int .i64 n7]).bind fun w8 => (impl_RuleHolds.l2 rec k n) x1 w8.1 x22 x23 (IntKind.i64.wrap (x24 + 1)) y3_0 y3_1 y3_2 w8.2 else none else none else none else impl_RuleHolds.j3 rec k x7 y3_0 y3_1 y3_2 H
noncomputable def impl_RuleHolds.j1 (rec : Rec) (k : Nat) (x1 : Sl) (y3_0 : Int) (y3_1 : Sl) (y3_2 : Int) (H : Hp) : An := impl_RuleHolds.l2 rec k k x1 (Sl.mk false H.length 0 0) y3_1 (y3_1.len : Int) 0 y3_0 y3_1 y3_2 (H ++ [some (Blk.mk false [])])
noncomputable def impl_RuleHolds.j0 (rec : Rec) (k : Nat) (x1 : Sl) (x19 : Bool) (y3_0 : Int) (y3_1 : Sl) (y3_2 : Int) (H : Hp) : An := bif x19 then some (.bool false, H) else impl_RuleHolds.j1 rec k x1 y3_0 y3_1 y3_2 H
noncomputable def impl_RuleHolds.f (rec : Rec) (k : Nat) (a0_0 : Int) (a0_1 : Sl) (a0_2 : Int) (a1 : Sl) (a2 : Int) (H : Hp) : An := (rec impl_RuleValid.id [.agg [.int .i64 a0_0, .sl 1 a0_1, .int .i64 a0_2], .int .i64 a2] H).bind fun r1 => r1.1.toB.bind fun b2 => bif !b2 then impl_RuleHolds.j0 rec k a1 true a0_0 a0_1 a0_2 r1.2 else (rec impl_GridValid.id [.sl 1 a1, .int .i64 a2] r1.2).bind fun r3 => r3.1.toB.bind fun b4 => impl_RuleHolds.j0 rec k a1 (!b4) a0_0 a0_1 a0_2 r3.2
theorem impl_RuleHolds.j3_eq (rec : Rec) (k : Nat) : ∀ x7 y3_0 y3_1 y3_2 H, impl_RuleHolds.j3 rec k x7 y3_0 y3_1 y3_2 H = ex PP (orc impl_RuleHolds.id) rec k (sub impl_RuleHolds.body [1, 1, 1, 1]) (St.of 44 [(3, .lp 3 0), (7, .sl 1 x7)] [(3, [.int .i64 y3_0, .sl 1 y3_1, .int .i64 y3_2])]) H (kAt PP (orc impl_RuleHolds.id) rec k impl_RuleHolds.body [1, 1, 1, 1] [] (K0 PP Go.Proofs.Try.f65)) := by
  intros x7 y3_0 y3_1 y3_2 H
  unfold impl_RuleHolds.j3
  kernel_rfl
theorem impl_RuleHolds.l2_eq (rec : Rec) (k : Nat) : ∀ n x1 x7 x22 x23 x24 y3_0 y3_1 y3_2 H, impl_RuleHolds.l2 rec k n x1 x7 x22 x23 x24 y3_0 y3_1 y3_2 H = iter ((orc impl_RuleHolds.id).at (lbody (sub impl_RuleHolds.body [1, 1, 1, 0, 1, 0]))) (ex PP (orc impl_RuleHolds.id) rec k (lbody (sub impl_RuleHolds.body [1, 1, 1, 0, 1, 0]))) (kAt PP (orc impl_RuleHolds.id) rec k impl_RuleHolds.body [1, 1, 1, 0, 1, 0] [] (K0 PP Go.Proofs.Try.f65)) n (St.of 44 [(1, .sl 1 x1), (3, .lp 3 0), (7, .sl 1 x7), (22, .sl 1 x22), (23, .int .i64 x23), (24, .int .i64 x24)] [(3, [.int .i64 y3_0, .sl 1 y3_1, .int .i64 y3_2])]) H := by
  intro n
  induction n with
  | zero => intros; rfl
  | succ n ih =>
    intros x1 x7 x22 x23 x24 y3_0 y3_1 y3_2 H
    simp only [impl_RuleHolds.l2, impl_RuleHolds.j3_eq rec k, ih, -eq_self]
    kernel_rfl
theorem impl_RuleHolds.j1_eq (rec : Rec) (k : Nat) : ∀ x1 y3_0 y3_1 y3_2 H, impl_RuleHolds.j1 rec k x1 y3_0 y3_1 y3_2 H = ex PP (orc impl_RuleHolds.id) rec k (sub impl_RuleHolds.body [1, 1]) (St.of 44 [(1, .sl 1 x1), (3, .lp 3 0)] [(3, [.int .i64 y3_0, .sl 1 y3_1, .int .i64 y3_2])]) H (kAt PP (orc impl_RuleHolds.id) rec k impl_RuleHolds.body [1, 1] [] (K0 PP Go.Proofs.Try.f65)) := by
  intros x1 y3_0 y3_1 y3_2 H
  unfold impl_RuleHolds.j1
  try simp only [impl_RuleHolds.l2_eq rec k, -eq_self]
  kernel_rfl
theorem impl_RuleHolds.j0_eq (rec : Rec) (k : Nat) : ∀ x1 x19 y3_0 y3_1 y3_2 H, impl_RuleHolds.j0 rec k x1 x19 y3_0 y3_1 y3_2 H = ex PP (orc impl_RuleHolds.id) rec k (sub impl_RuleHolds.body [1, 0, 1]) (St.of 44 [(1, .sl 1 x1), (3, .lp 3 0), (19, .bool x19)] [(3, [.int .i64 y3_0, .sl 1 y3_1, .int .i64 y3_2])]) H (kAt PP (orc impl_RuleHolds.id) rec k impl_RuleHolds.body [1, 0, 1] [] (K0 PP Go.Proofs.Try.f65)) := by
  intros x1 x19 y3_0 y3_1 y3_2 H
  unfold impl_RuleHolds.j0
  try simp only [impl_RuleHolds.j1_eq rec k, -eq_self]
  kernel_rfl
theorem impl_RuleHolds.f_eq (rec : Rec) (k : Nat) : ∀ a0_0 a0_1 a0_2 a1 a2 H, impl_RuleHolds.f rec k a0_0 a0_1 a0_2 a1 a2 H = ex PP (orc impl_RuleHolds.id) rec k impl_RuleHolds.body (St.of 44 [(0, .agg [.int .i64 a0_0, .sl 1 a0_1, .int .i64 a0_2]), (1, .sl 1 a1), (2, .int .i64 a2)] []) H (K0 PP Go.Proofs.Try.f65) := by
  intros a0_0 a0_1 a0_2 a1 a2 H
  unfold impl_RuleHolds.f
  try simp only [impl_RuleHolds.j0_eq rec k, -eq_self]
  kernel_rfl
theorem impl_RuleHolds.call (k : Nat) : ∀ a0_0 a0_1 a0_2 a1 a2 H, callF PP orc (k + 1) impl_RuleHolds.id [.agg [.int .i64 a0_0, .sl 1 a0_1, .int .i64 a0_2], .sl 1 a1, .int .i64 a2] H = impl_RuleHolds.f (callF PP orc k) k a0_0 a0_1 a0_2 a1 a2 H := by
  intros a0_0 a0_1 a0_2 a1 a2 H
  rw [callF_at (fn := Go.Proofs.Try.f65) (c := impl_RuleHolds.body) Go.Proofs.Try.func65 (by kernel_rfl) (Nat.le_of_ble_eq_true (by kernel_rfl)), impl_RuleHolds.f_eq]
  kernel_rfl
noncomputable def impl_SquareSolved.body : Code := (Go.Proofs.Try.f64).body.getD .skip
noncomputable def impl_SquareSolved.f (rec : Rec) (k : Nat) (a0 : Sl) (a1 : Int) (H : Hp) : An := (rec impl_SquareFits.id [.sl 1 a0, .int .i64 a1] H).bind fun r1 => r1.1.toB.bind fun b2 => bif b2 then (rec impl_GridFilled.id [.sl 1 a0, .int .i64 a1] r1.2).bind fun r3 => (r3.1.toI .i64).bind fun n4 => some (.bool (n4 == (IntKind.i64.wrap (a1 * a1))), r3.2) else some (.bool false, r1.2)
theorem impl_SquareSolved.f_eq (rec : Rec) (k : Nat) : ∀ a0 a1 H, impl_SquareSolved.f rec k a0 a1 H = ex PP (orc impl_SquareSolved.id) rec k impl_SquareSolved.body (St.of 17 [(0, .sl 1 a0), (1, .int .i64 a1)] []) H (K0 PP Go.Proofs.Try.f64) := by
  intros a0 a1 H
  unfold impl_SquareSolved.f
  kernel_rfl
theorem impl_SquareSolved.call (k : Nat) : ∀ a0 a1 H, callF PP orc (k + 1) impl_SquareSolved.id [.sl 1 a0, .int .i64 a1] H = impl_SquareSolved.f (callF PP orc k) k a0 a1 H := by
  intros a0 a1 H
  rw [callF_at (fn := Go.Proofs.Try.f64) (c := impl_SquareSolved.body) Go.Proofs.Try.func64 (by kernel_rfl) (Nat.le_of_ble_eq_true (by kernel_rfl)), impl_SquareSolved.f_eq]
  kernel_rfl
end Go.Proofs.Ytjojhbdghhmeeaa.Rp
/- Functions of the program as plain Lean functions. No conditions. -/
set_option linter.unusedVariables false
set_option linter.unusedSimpArgs false
set_option maxRecDepth 100000
namespace Go.Proofs.Ytjojhbdghhmeeaa.Rp
open Go Go.Proofs.Ytjojhbdghhmeeaa.Ab
noncomputable def laws_FnPuzzleSolved.body : Code := (Go.Proofs.Try.f14).body.getD .skip
noncomputable def laws_FnPuzzleSolved.j3 (rec : Rec) (k : Nat) (L2 : Sl → Bool → Bool → Int → Int → Sl → Sl → Hp → An) (x4 : Sl) (x5 : Bool) (x6 : Bool) (x7 : Int) (y3_0 : Int) (y3_1 : Sl) (y3_2 : Sl) (H : Hp) : An := L2 x4 x5 x6 (IntKind.i64.wrap (x7 + 1)) y3_0 y3_1 y3_2 H
noncomputable def laws_FnPuzzleSolved.j6 (rec : Rec) (k : Nat) (L5 : Sl → Bool → Bool → Int → Int → Sl → Sl → Hp → An) (x4 : Sl) (x5 : Bool) (x6 : Bool) (x8 : Int) (y3_0 : Int) (y3_1 : Sl) (y3_2 : Sl) (H : Hp) : An := L5 x4 x5 x6 (IntKind.i64.wrap (x8 + 1)) y3_0 y3_1 y3_2 H
noncomputable def laws_FnPuzzleSolved.j7 (rec : Rec) (k : Nat) (x5 : Bool) (x6 : Bool) (H : Hp) : An := some (.bool (x5 == x6), H)
noncomputable def laws_FnPuzzleSolved.l5 (rec : Rec) (k : Nat) : Nat → Sl → Bool → Bool → Int → Int → Sl → Sl → Hp → An
  | 0, _, _, _, _, _, _, _, _ => none
  | n + 1, x4, x5, x6, x8, y3_0, y3_1, y3_2, H => bif decide (x8 < (x4.len : Int)) then bif x6 then bif decide (0 ≤ (x8 : Int)) && decide ((x8 : Int) < y3_1.len) then (ldI .i64 H y3_1.blk (y3_1.off + (x8 : Int).toNat * 1)).bind fun n23 => bif n23 == 0 then laws_FnPuzzleSolved.j6 rec k (laws_FnPuzzleSolved.l5 rec k n) x4 x5 true x8 y3_0 y3_1 y3_2 H else bif decide (0 ≤ (x8 : Int)) && decide ((x8 : Int) < y3_1.len) then (ldI .i64 H y3_1.blk (y3_1.off + (x8 : Int).toNat * 1)).bind fun n24 => bif decide (0 ≤ (x8 : Int)) && decide ((x8 : Int) < x4.len) then (ldI .i64 H x4.blk (x4.off + (x8 : Int).toNat * 1)).bind fun n25 => laws_FnPuzzleSolved.j6 rec k (laws_FnPuzzleSolved.l5 rec k n) x4 x5 (n24 == n25) x8 y3_0 y3_1 y3_2 H else none else none else none else laws_FnPuzzleSolved.j6 rec k (laws_FnPuzzleSolved.l5 rec k n) x4 x5 false x8 y3_0 y3_1 y3_2 H else laws_FnPuzzleSolved.j7 rec k x5 x6 H
noncomputable def laws_FnPuzzleSolved.j4 (rec : Rec) (k : Nat) (x4 : Sl) (x5 : Bool) (x6 : Bool) (y3_0 : Int) (y3_1 : Sl) (y3_2 : Sl) (H : Hp) : An := laws_FnPuzzleSolved.l5 rec k k x4 x5 x6 0 y3_0 y3_1 y3_2 H
noncomputable def laws_FnPuzzleSolved.l2 (rec : Rec) (k : Nat) : Nat → Sl → Bool → Bool → Int → Int → Sl → Sl → Hp → An
  | 0, _, _, _, _, _, _, _, _ => none
  | n + 1, x4, x5, x6, x7, y3_0, y3_1, y3_2, H => bif decide (x7 < (y3_2.len : Int)) then bif x6 then bif decide (0 ≤ (x7 : Int)) && decide ((x7 : Int) < y3_2.len) then (ldI .i64 H y3_2.blk (y3_2.off + (x7 : Int).toNat * 3)).bind fun n18 => (ldS 1 H y3_2.blk (y3_2.off + (x7 : Int).toNat * 3 + 1)).bind fun s19 => (ldI .i64 H y3_2.blk (y3_2.off + (x7 : Int).toNat * 3 + 1 + 1)).bind fun n20 => (rec impl_RuleHolds.id [.agg [.int .i64 n18, .sl 1 s19, .int .i64 n20], .sl 1 x4, .int .i64 y3_0] H).bind fun r21 => r21.1.toB.bind fun b22 => laws_FnPuzzleSolved.j3 rec k (laws_FnPuzzleSolved.l2 rec k n) x4 x5 b22 x7 y3_0 y3_1 y3_2 r21.2 else none else laws_FnPuzzleSolved.j3 rec k (laws_FnPuzzleSolved.l2 rec k n) x4 x5 false x7 y3_0 y3_1 y3_2 H else laws_FnPuzzleSolved.j4 rec k x4 x5 x6 y3_0 y3_1 y3_2 H
noncomputable def laws_FnPuzzleSolved.j1 (rec : Rec) (k : Nat) (x4 : Sl) (x5 : Bool) (y3_0 : Int) (y3_1 : Sl) (y3_2 : Sl) (H : Hp) : An := (rec impl_SquareSolved.id [.sl 1 x4, .int .i64 y3_0] H).bind fun r16 => r16.1.toB.bind fun b17 => laws_FnPuzzleSolved.l2 rec k k x4 x5 b17 0 y3_0 y3_1 y3_2 r16.2
noncomputable def laws_FnPuzzleSolved.j0 (rec : Rec) (k : Nat) (x4 : Sl) (x5 : Bool) (x34 : Bool) (y3_0 : Int) (y3_1 : Sl) (y3_2 : Sl) (H : Hp) : An := bif x34 then bif !x5 then (rec laws_alive.id [] H).bind fun r14 => r14.1.toB.bind fun b15 => some (.bool b15, r14.2) else some (.bool false, H) else laws_FnPuzzleSolved.j1 rec k x4 x5 y3_0 y3_1 y3_2 H
noncomputable def laws_FnPuzzleSolved.f (rec : Rec) (k : Nat) (a0 : Sl) (H : Hp) : An := bif decide ((a0.len : Int) > 1048576) then some (.bool true, H) else (rec spec_DrawPuzzleSolved.id [.sl 1 a0] H).bind fun r1 => bif r1.1.isTup 2 then bif (r1.1.nth 0).isAgg 3 then (((r1.1.nth 0).cel 0).toI .i64).bind fun n2 => (((r1.1.nth 0).cel 1).toS 1).bind fun s3 => (((r1.1.nth 0).cel 2).toS 3).bind fun s4 => ((r1.1.nth 1).toS 1).bind fun s5 => (rec impl_PuzzleSolved.id [.agg [.int .i64 n2, .sl 1 s3, .sl 3 s4], .sl 1 s5] r1.2).bind fun r6 => r6.1.toB.bind fun b7 => (rec spec_PuzzleSolved.id [.agg [.int .i64 n2, .sl 1 s3, .sl 3 s4], .sl 1 s5] r6.2).bind fun r8 => r8.1.toB.bind fun b9 => bif !(b7 == b9) then some (.bool false, r8.2) else (rec spec_PuzzleValid.id [.agg [.int .i64 n2, .sl 1 s3, .sl 3 s4]] r8.2).bind fun r10 => r10.1.toB.bind fun b11 => bif !b11 then laws_FnPuzzleSolved.j0 rec k s5 b7 true n2 s3 s4 r10.2 else (rec spec_GridValid.id [.sl 1 s5, .int .i64 n2] r10.2).bind fun r12 => r12.1.toB.bind fun b13 => laws_FnPuzzleSolved.j0 rec k s5 b7 (!b13) n2 s3 s4 r12.2 else none else none
theorem laws_FnPuzzleSolved.j3_eq (rec : Rec) (k : Nat) (n2 : Nat) (L2 : Sl → Bool → Bool → Int → Int → Sl → Sl → Hp → An) (hL2 : ∀ x4 x5 x6 x7 y3_0 y3_1 y3_2 H, L2 x4 x5 x6 x7 y3_0 y3_1 y3_2 H = iter ((orc laws_FnPuzzleSolved.id).at (lbody (sub laws_FnPuzzleSolved.body [1, 1, 1, 1, 1, 1, 1, 0, 1, 0]))) (ex PP (orc laws_FnPuzzleSolved.id) rec k (lbody (sub laws_FnPuzzleSolved.body [1, 1, 1, 1, 1, 1, 1, 0, 1, 0]))) (kAt PP (orc laws_FnPuzzleSolved.id) rec k laws_FnPuzzleSolved.body [1, 1, 1, 1, 1, 1, 1, 0, 1, 0] [] (K0 PP Go.Proofs.Try.f14)) n2 (St.of 93 [(3, .lp 3 0), (4, .sl 1 x4), (5, .bool x5), (6, .bool x6), (7, .int .i64 x7)] [(3, [.int .i64 y3_0, .sl 1 y3_1, .sl 3 y3_2])]) H) : ∀ x4 x5 x6 x7 y3_0 y3_1 y3_2 H, laws_FnPuzzleSolved.j3 rec k L2 x4 x5 x6 x7 y3_0 y3_1 y3_2 H = ex PP (orc laws_FnPuzzleSolved.id) rec k (sub laws_FnPuzzleSolved.body [1, 1, 1, 1, 1, 1, 1, 0, 1, 0, 0, 1, 1]) (St.of 93 [(3, .lp 3 0), (4, .sl 1 x4), (5, .bool x5), (6, .bool x6), (7, .int .i64 x7)] [(3, [.int .i64 y3_0, .sl 1 y3_1, .sl 3 y3_2])]) H (kAt PP (orc laws_FnPuzzleSolved.id) rec k laws_FnPuzzleSolved.body [1, 1, 1, 1, 1, 1, 1, 0, 1, 0, 0, 1, 1] [n2] (K0 PP Go.Proofs.Try.f14)) := by
  intros x4 x5 x6 x7 y3_0 y3_1 y3_2 H
  unfold laws_FnPuzzleSolved.j3
  try simp only [hL2, -eq_self]
  kernel_rfl
theorem laws_FnPuzzleSolved.j6_eq (rec : Rec) (k : Nat) (n5 : Nat) (L5 : Sl → Bool → Bool → Int → Int → Sl → Sl → Hp → An) (hL5 : ∀ x4 x5 x6 x8 y3_0 y3_1 y3_2 H, L5 x4 x5 x6 x8 y3_0 y3_1 y3_2 H = iter ((orc laws_FnPuzzleSolved.id).at (lbody (sub laws_FnPuzzleSolved.body [1, 1, 1, 1, 1, 1, 1, 1, 0, 1, 0]))) (ex PP (orc laws_FnPuzzleSolved.id) rec k (lbody (sub laws_FnPuzzleSolved.body [1, 1, 1, 1, 1, 1, 1, 1, 0, 1, 0]))) (kAt PP (orc laws_FnPuzzleSolved.id) rec k laws_FnPuzzleSolved.body [1, 1, 1, 1, 1, 1, 1, 1, 0, 1, 0] [] (K0 PP Go.Proofs.Try.f14)) n5 (St.of 93 [(3, .lp 3 0), (4, .sl 1 x4), (5, .bool x5), (6, .bool x6), (8, .int .i64 x8)] [(3, [.int .i64 y3_0, .sl 1 y3_1, .sl 3 y3_2])]) H) : ∀ x4 x5 x6 x8 y3_0 y3_1 y3_2 H, laws_FnPuzzleSolved.j6 rec k L5 x4 x5 x6 x8 y3_0 y3_1 y3_2 H = ex PP (orc laws_FnPuzzleSolved.id) rec k (sub laws_FnPuzzleSolved.body [1, 1, 1, 1, 1, 1, 1, 1, 0, 1, 0, 0, 1, 1]) (St.of 93 [(3, .lp 3 0), (4, .sl 1 x4), (5, .bool x5), (6, .bool x6), (8, .int .i64 x8)] [(3, [.int .i64 y3_0, .sl 1 y3_1, .sl 3 y3_2])]) H (kAt PP (orc laws_FnPuzzleSolved.id) rec k laws_FnPuzzleSolved.body [1, 1, 1, 1, 1, 1, 1, 1, 0, 1, 0, 0, 1, 1] [n5] (K0 PP Go.Proofs.Try.f14)) := by
  intros x4 x5 x6 x8 y3_0 y3_1 y3_2 H
  unfold laws_FnPuzzleSolved.j6
  try simp only [hL5, -eq_self]
  kernel_rfl
theorem laws_FnPuzzleSolved.j7_eq (rec : Rec) (k : Nat) : ∀ x5 x6 H, laws_FnPuzzleSolved.j7 rec k x5 x6 H = ex PP (orc laws_FnPuzzleSolved.id) rec k (sub laws_FnPuzzleSolved.body [1, 1, 1, 1, 1, 1, 1, 1, 1]) (St.of 93 [(5, .bool x5), (6, .bool x6)] []) H (kAt PP (orc laws_FnPuzzleSolved.id) rec k laws_FnPuzzleSolved.body [1, 1, 1, 1, 1, 1, 1, 1, 1] [] (K0 PP Go.Proofs.Try.f14)) := by
  intros x5 x6 H
  unfold laws_FnPuzzleSolved.j7
  kernel_rfl
theorem laws_FnPuzzleSolved.l5_eq (rec : Rec) (k : Nat) : ∀ n x4 x5 x6 x8 y3_0 y3_1 y3_2 H, laws_FnPuzzleSolved.l5 rec k n x4 x5 x6 x8 y3_0 y3_1 y3_2 H = iter ((orc laws_FnPuzzleSolved.id).at (lbody (sub laws_FnPuzzleSolved.body [1, 1, 1, 1, 1, 1, 1, 1, 0, 1, 0]))) (ex PP (orc laws_FnPuzzleSolved.id) rec k (lbody (sub laws_FnPuzzleSolved.body [1, 1, 1, 1, 1, 1, 1, 1, 0, 1, 0]))) (kAt PP (orc laws_FnPuzzleSolved.id) rec k laws_FnPuzzleSolved.body [1, 1, 1, 1, 1, 1, 1, 1, 0, 1, 0] [] (K0 PP Go.Proofs.Try.f14)) n (St.of 93 [(3, .lp 3 0), (4, .sl 1 x4), (5, .bool x5), (6, .bool x6), (8, .int .i64 x8)] [(3, [.int .i64 y3_0, .sl 1 y3_1, .sl 3 y3_2])]) H := by
  intro n
  induction n with
  | zero => intros; rfl
  | succ n ih =>
    intros x4 x5 x6 x8 y3_0 y3_1 y3_2 H
    simp only [laws_FnPuzzleSolved.l5, laws_FnPuzzleSolved.j6_eq rec k n (laws_FnPuzzleSolved.l5 rec k n) (fun x4 x5 x6 x8 y3_0 y3_1 y3_2 H => ih x4 x5 x6 x8 y3_0 y3_1 y3_2 H), laws_FnPuzzleSolved.j7_eq rec k, ih, -eq_self]
    kernel_rfl
theorem laws_FnPuzzleSolved.j4_eq (rec : Rec) (k : Nat) : ∀ x4 x5 x6 y3_0 y3_1 y3_2 H, laws_FnPuzzleSolved.j4 rec k x4 x5 x6 y3_0 y3_1 y3_2 H = ex PP (orc laws_FnPuzzleSolved.id) rec k (sub laws_FnPuzzleSolved.body [1, 1, 1, 1, 1, 1, 1, 1]) (St.of 93 [(3, .lp 3 0), (4, .sl 1 x4), (5, .bool x5), (6, .bool x6)] [(3, [.int .i64 y3_0, .sl 1 y3_1, .sl 3 y3_2])]) H (kAt PP (orc laws_FnPuzzleSolved.id) rec k laws_FnPuzzleSolved.body [1, 1, 1, 1, 1, 1, 1, 1] [] (K0 PP Go.Proofs.Try.f14)) := by
  intros x4 x5 x6 y3_0 y3_1 y3_2 H
  unfold laws_FnPuzzleSolved.j4
  try simp only [laws_FnPuzzleSolved.l5_eq rec k, -eq_self]
  kernel_rfl
theorem laws_FnPuzzleSolved.l2_eq (rec : Rec) (k : Nat) : ∀ n x4 x5 x6 x7 y3_0 y3_1 y3_2 H, laws_FnPuzzleSolved.l2 rec k n x4 x5 x6 x7 y3_0 y3_1 y3_2 H = iter ((orc laws_FnPuzzleSolved.id).at (lbody (sub laws_FnPuzzleSolved.body [1, 1, 1, 1, 1, 1, 1, 0, 1, 0]))) (ex PP (orc laws_FnPuzzleSolved.id) rec k (lbody (sub laws_FnPuzzleSolved.body [1, 1, 1, 1, 1, 1, 1, 0, 1, 0]))) (kAt PP (orc laws_FnPuzzleSolved.id) rec k laws_FnPuzzleSolved.body [1, 1, 1, 1, 1, 1, 1, 0, 1, 0] [] (K0 PP Go.Proofs.Try.f14)) n (St.of 93 [(3, .lp 3 0), (4, .sl 1 x4), (5, .bool x5), (6, .bool x6), (7, .int .i64 x7)] [(3, [.int .i64 y3_0, .sl 1 y3_1, .sl 3 y3_2])]) H := by
  intro n
  induction n with
  | zero => intros; rfl
  | succ n ih =>
    intros x4 x5 x6 x7 y3_0 y3_1 y3_2 H
    simp only [laws_FnPuzzleSolved.l2, laws_FnPuzzleSolved.j3_eq rec k n (laws_FnPuzzleSolved.l2 rec k n) (fun x4 x5 x6 x7 y3_0 y3_1 y3_2 H => ih x4 x5 x6 x7 y3_0 y3_1 y3_2 H), laws_FnPuzzleSolved.j4_eq rec k, ih, -eq_self]
    kernel_rfl
theorem laws_FnPuzzleSolved.j1_eq (rec : Rec) (k : Nat) : ∀ x4 x5 y3_0 y3_1 y3_2 H, laws_FnPuzzleSolved.j1 rec k x4 x5 y3_0 y3_1 y3_2 H = ex PP (orc laws_FnPuzzleSolved.id) rec k (sub laws_FnPuzzleSolved.body [1, 1, 1, 1, 1, 1]) (St.of 93 [(3, .lp 3 0), (4, .sl 1 x4), (5, .bool x5)] [(3, [.int .i64 y3_0, .sl 1 y3_1, .sl 3 y3_2])]) H (kAt PP (orc laws_FnPuzzleSolved.id) rec k laws_FnPuzzleSolved.body [1, 1, 1, 1, 1, 1] [] (K0 PP Go.Proofs.Try.f14)) := by
  intros x4 x5 y3_0 y3_1 y3_2 H
  unfold laws_FnPuzzleSolved.j1
  try simp only [laws_FnPuzzleSolved.l2_eq rec k, -eq_self]
  kernel_rfl
theorem laws_FnPuzzleSolved.j0_eq (rec : Rec) (k : Nat) : ∀ x4 x5 x34 y3_0 y3_1 y3_2 H, laws_FnPuzzleSolved.j0 rec k x4 x5 x34 y3_0 y3_1 y3_2 H = ex PP (orc laws_FnPuzzleSolved.id) rec k (sub laws_FnPuzzleSolved.body [1, 1, 1, 1, 1, 0, 1]) (St.of 93 [(3, .lp 3 0), (4, .sl 1 x4), (5, .bool x5), (34, .bool x34)] [(3, [.int .i64 y3_0, .sl 1 y3_1, .sl 3 y3_2])]) H (kAt PP (orc laws_FnPuzzleSolved.id) rec k laws_FnPuzzleSolved.body [1, 1, 1, 1, 1, 0, 1] [] (K0 PP Go.Proofs.Try.f14)) := by
  intros x4 x5 x34 y3_0 y3_1 y3_2 H
  unfold laws_FnPuzzleSolved.j0
  try simp only [laws_FnPuzzleSolved.j1_eq rec k, -eq_self]
  kernel_rfl
theorem laws_FnPuzzleSolved.f_eq (rec : Rec) (k : Nat) : ∀ a0 H, laws_FnPuzzleSolved.f rec k a0 H = ex PP (orc laws_FnPuzzleSolved.id) rec k laws_FnPuzzleSolved.body (St.of 93 [(0, .sl 1 a0)] []) H (K0 PP Go.Proofs.Try.f14) := by
  intros a0 H
  unfold laws_FnPuzzleSolved.f
  try simp only [laws_FnPuzzleSolved.j0_eq rec k, -eq_self]
  kernel_rfl
theorem laws_FnPuzzleSolved.call (k : Nat) : ∀ a0 H, callF PP orc (k + 1) laws_FnPuzzleSolved.id [.sl 1 a0] H = laws_FnPuzzleSolved.f (callF PP orc k) k a0 H := by
  intros a0 H
  rw [callF_at (fn := Go.Proofs.Try.f14) (c := laws_FnPuzzleSolved.body) Go.Proofs.Try.func14 (by kernel_rfl) (Nat.le_of_ble_eq_true (by kernel_rfl)), laws_FnPuzzleSolved.f_eq]
  kernel_rfl
noncomputable def spec_DrawPuzzleSolved.body : Code := (Go.Proofs.Try.f61).body.getD .skip
noncomputable def spec_DrawPuzzleSolved.j1 (rec : Rec) (k : Nat) (x6 : Sl) (y2_0 : Int) (y2_1 : Sl) (y2_2 : Sl) (y5_0 : Int) (y5_1 : Sl) (y5_2 : Sl) (H : Hp) : An := some (.tup [.agg [.int .i64 y5_0, .sl 1 y5_1, .sl 3 y5_2], .sl 1 x6], H)
noncomputable def spec_DrawPuzzleSolved.j0 (rec : Rec) (k : Nat) (x6 : Sl) (x7 : Sl) (x26 : Bool) (y2_0 : Int) (y2_1 : Sl) (y2_2 : Sl) (y5_0 : Int) (y5_1 : Sl) (y5_2 : Sl) (H : Hp) : An := bif x26 then some (.tup [.agg [.int .i64 y5_0, .sl 1 y5_1, .sl 3 y5_2], .sl 1 x7], H) else spec_DrawPuzzleSolved.j1 rec k x6 y2_0 y2_1 y2_2 y5_0 y5_1 y5_2 H
noncomputable def spec_DrawPuzzleSolved.f (rec : Rec) (k : Nat) (a0 : Sl) (H : Hp) : An := (rec spec_l20Open.id [.sl 1 a0] H).bind fun r1 => r1.1.toP.bind fun p2 => (rec spec_l20Try.id [.ptr p2.1 p2.2, .int .i64 12] r1.2).bind fun r3 => bif r3.1.isTup 2 then bif (r3.1.nth 0).isAgg 3 then (((r3.1.nth 0).cel 0).toI .i64).bind fun n4 => (((r3.1.nth 0).cel 1).toS 1).bind fun s5 => (((r3.1.nth 0).cel 2).toS 3).bind fun s6 => ((r3.1.nth 1).toS 1).bind fun s7 => (rec spec_SolveFirst.id [.agg [.int .i64 n4, .sl 1 s5, .sl 3 s6]] r3.2).bind fun r8 => bif r8.1.isTup 2 then ((r8.1.nth 0).toS 1).bind fun s9 => (r8.1.nth 1).toB.bind fun b10 => bif b10 then (rec spec_l20Rd_pick.id [.ptr p2.1 p2.2, .int .i64 2] r8.2).bind fun r11 => (r11.1.toI .i64).bind fun n12 => spec_DrawPuzzleSolved.j0 rec k s7 s9 (n12 == 0) 0 Sl.none Sl.none n4 s5 s6 r11.2 else spec_DrawPuzzleSolved.j0 rec k s7 s9 false 0 Sl.none Sl.none n4 s5 s6 r8.2 else none else none else none
theorem spec_DrawPuzzleSolved.j1_eq (rec : Rec) (k : Nat) : ∀ x6 y2_0 y2_1 y2_2 y5_0 y5_1 y5_2 H, spec_DrawPuzzleSolved.j1 rec k x6 y2_0 y2_1 y2_2 y5_0 y5_1 y5_2 H = ex PP (orc spec_DrawPuzzleSolved.id) rec k (sub spec_DrawPuzzleSolved.body [1, 1, 1, 1]) (St.of 31 [(2, .lp 2 0), (5, .lp 5 0), (6, .sl 1 x6)] [(2, [.int .i64 y2_0, .sl 1 y2_1, .sl 3 y2_2]), (5, [.int .i64 y5_0, .sl 1 y5_1, .sl 3 y5_2])]) H (kAt PP (orc spec_DrawPuzzleSolved.id) rec k spec_DrawPuzzleSolved.body [1, 1, 1, 1] [] (K0 PP Go.Proofs.Try.f61)) := by
  intros x6 y2_0 y2_1 y2_2 y5_0 y5_1 y5_2 H
  unfold spec_DrawPuzzleSolved.j1
  kernel_rfl
theorem spec_DrawPuzzleSolved.j0_eq (rec : Rec) (k : Nat) : ∀ x6 x7 x26 y2_0 y2_1 y2_2 y5_0 y5_1 y5_2 H, spec_DrawPuzzleSolved.j0 rec k x6 x7 x26 y2_0 y2_1 y2_2 y5_0 y5_1 y5_2 H = ex PP (orc spec_DrawPuzzleSolved.id) rec k (sub spec_DrawPuzzleSolved.body [1, 1, 1, 0, 1, 1]) (St.of 31 [(2, .lp 2 0), (5, .lp 5 0), (6, .sl 1 x6), (7, .sl 1 x7), (26, .bool x26)] [(2, [.int .i64 y2_0, .sl 1 y2_1, .sl 3 y2_2]), (5, [.int .i64 y5_0, .sl 1 y5_1, .sl 3 y5_2])]) H (kAt PP (orc spec_DrawPuzzleSolved.id) rec k spec_DrawPuzzleSolved.body [1, 1, 1, 0, 1, 1] [] (K0 PP Go.Proofs.Try.f61)) := by
  intros x6 x7 x26 y2_0 y2_1 y2_2 y5_0 y5_1 y5_2 H
  unfold spec_DrawPuzzleSolved.j0
  try simp only [spec_DrawPuzzleSolved.j1_eq rec k, -eq_self]
  kernel_rfl
theorem spec_DrawPuzzleSolved.f_eq (rec : Rec) (k : Nat) : ∀ a0 H, spec_DrawPuzzleSolved.f rec k a0 H = ex PP (orc spec_DrawPuzzleSolved.id) rec k spec_DrawPuzzleSolved.body (St.of 31 [(0, .sl 1 a0)] []) H (K0 PP Go.Proofs.Try.f61) := by
  intros a0 H
  unfold spec_DrawPuzzleSolved.f
  try simp only [spec_DrawPuzzleSolved.j0_eq rec k, -eq_self]
  kernel_rfl
theorem spec_DrawPuzzleSolved.call (k : Nat) : ∀ a0 H, callF PP orc (k + 1) spec_DrawPuzzleSolved.id [.sl 1 a0] H = spec_DrawPuzzleSolved.f (callF PP orc k) k a0 H := by
  intros a0 H
  rw [callF_at (fn := Go.Proofs.Try.f61) (c := spec_DrawPuzzleSolved.body) Go.Proofs.Try.func61 (by kernel_rfl) (Nat.le_of_ble_eq_true (by kernel_rfl)), spec_DrawPuzzleSolved.f_eq]
  kernel_rfl
end Go.Proofs.Ytjojhbdghhmeeaa.Rp
