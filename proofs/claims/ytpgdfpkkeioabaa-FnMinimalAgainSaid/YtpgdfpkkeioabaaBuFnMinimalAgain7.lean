/- Texts for the row of the law FnMinimalAgain, part 7: the plain machine, the program's functions on it, what they come to. No conditions. -/
import Derived.Test.YtpgdfpkkeioabaaAb
import Derived.Test.YtpgdfpkkeioabaaOr
/- Functions of the program as plain Lean functions. No conditions. -/
set_option linter.unusedVariables false
set_option linter.unusedSimpArgs false
set_option maxRecDepth 100000
namespace Go.Proofs.Ytpgdfpkkeioabaa.Rp
open Go Go.Proofs.Ytpgdfpkkeioabaa.Ab
noncomputable def laws_alive.body : Code := (Go.Proofs.Try.f17).body.getD .skip
noncomputable def laws_alive.f (rec : Rec) (k : Nat) (H : Hp) : An := (rec impl_GridFilled.id [.sl 1 (Sl.mk false H.length 0 4), .int .i64 2] (H ++ [some (Blk.mk false [.int .i64 1, .int .i64 0, .int .i64 0, .int .i64 2])])).bind fun r1 => (r1.1.toI .i64).bind fun n2 => some (.bool (n2 == 2), r1.2)
theorem laws_alive.f_eq (rec : Rec) (k : Nat) : ∀ H, laws_alive.f rec k H = ex PP (orc laws_alive.id) rec k laws_alive.body (St.of 4 [] []) H (K0 PP Go.Proofs.Try.f17) := by
  intros H
  unfold laws_alive.f
  kernel_rfl
theorem laws_alive.call (k : Nat) : ∀ H, callF PP orc (k + 1) laws_alive.id [] H = laws_alive.f (callF PP orc k) k H := by
  intros H
  rw [callF_at (fn := Go.Proofs.Try.f17) (c := laws_alive.body) Go.Proofs.Try.func17 (by kernel_rfl) (Nat.le_of_ble_eq_true (by kernel_rfl)), laws_alive.f_eq]
  kernel_rfl
end Go.Proofs.Ytpgdfpkkeioabaa.Rp
/- Functions of the program as plain Lean functions. No conditions. -/
set_option linter.unusedVariables false
set_option linter.unusedSimpArgs false
set_option maxRecDepth 100000
namespace Go.Proofs.Ytpgdfpkkeioabaa.Rp
open Go Go.Proofs.Ytpgdfpkkeioabaa.Ab
noncomputable def laws_FnIsMinimal.body : Code := (Go.Proofs.Try.f6).body.getD .skip
noncomputable def laws_FnIsMinimal.j1 (rec : Rec) (k : Nat) (L0 : Bool → Bool → Int → Int → Sl → Sl → Hp → An) (x4 : Bool) (x5 : Bool) (x6 : Int) (y3_0 : Int) (y3_1 : Sl) (y3_2 : Sl) (H : Hp) : An := L0 x4 x5 (IntKind.i64.wrap (x6 + 1)) y3_0 y3_1 y3_2 H
noncomputable def laws_FnIsMinimal.j2 (rec : Rec) (k : Nat) (x4 : Bool) (x5 : Bool) (H : Hp) : An := some (.bool (x4 == x5), H)
noncomputable def laws_FnIsMinimal.l0 (rec : Rec) (k : Nat) : Nat → Bool → Bool → Int → Int → Sl → Sl → Hp → An
  | 0, _, _, _, _, _, _, _ => none
  | n + 1, x4, x5, x6, y3_0, y3_1, y3_2, H => bif decide (x6 < (y3_1.len : Int)) then bif x5 then (rec impl_IsRedundant.id [.agg [.int .i64 y3_0, .sl 1 y3_1, .sl 3 y3_2], .int .i64 x6] H).bind fun r15 => r15.1.toB.bind fun b16 => laws_FnIsMinimal.j1 rec k (laws_FnIsMinimal.l0 rec k n) x4 (!b16) x6 y3_0 y3_1 y3_2 r15.2 else laws_FnIsMinimal.j1 rec k (laws_FnIsMinimal.l0 rec k n) x4 false x6 y3_0 y3_1 y3_2 H else laws_FnIsMinimal.j2 rec k x4 x5 H
noncomputable def laws_FnIsMinimal.f (rec : Rec) (k : Nat) (a0 : Sl) (H : Hp) : An := bif decide ((a0.len : Int) > 1048576) then some (.bool true, H) else (rec spec_DrawIsMinimal.id [.sl 1 a0] H).bind fun r1 => bif r1.1.isAgg 3 then ((r1.1.cel 0).toI .i64).bind fun n2 => ((r1.1.cel 1).toS 1).bind fun s3 => ((r1.1.cel 2).toS 3).bind fun s4 => (rec impl_IsMinimal.id [.agg [.int .i64 n2, .sl 1 s3, .sl 3 s4]] r1.2).bind fun r5 => r5.1.toB.bind fun b6 => (rec spec_IsMinimal.id [.agg [.int .i64 n2, .sl 1 s3, .sl 3 s4]] r5.2).bind fun r7 => r7.1.toB.bind fun b8 => bif !(b6 == b8) then some (.bool false, r7.2) else (rec spec_PuzzleValid.id [.agg [.int .i64 n2, .sl 1 s3, .sl 3 s4]] r7.2).bind fun r9 => r9.1.toB.bind fun b10 => bif !b10 then bif !b6 then (rec laws_alive.id [] r9.2).bind fun r11 => r11.1.toB.bind fun b12 => some (.bool b12, r11.2) else some (.bool false, r9.2) else (rec impl_CountSolutions.id [.agg [.int .i64 n2, .sl 1 s3, .sl 3 s4], .int .i64 2] r9.2).bind fun r13 => (r13.1.toI .i64).bind fun n14 => laws_FnIsMinimal.l0 rec k k b6 (n14 == 1) 0 n2 s3 s4 r13.2 else none
theorem laws_FnIsMinimal.j1_eq (rec : Rec) (k : Nat) (n0 : Nat) (L0 : Bool → Bool → Int → Int → Sl → Sl → Hp → An) (hL0 : ∀ x4 x5 x6 y3_0 y3_1 y3_2 H, L0 x4 x5 x6 y3_0 y3_1 y3_2 H = iter ((orc laws_FnIsMinimal.id).at (lbody (sub laws_FnIsMinimal.body [1, 1, 1, 1, 1, 1, 1, 0, 1, 0]))) (ex PP (orc laws_FnIsMinimal.id) rec k (lbody (sub laws_FnIsMinimal.body [1, 1, 1, 1, 1, 1, 1, 0, 1, 0]))) (kAt PP (orc laws_FnIsMinimal.id) rec k laws_FnIsMinimal.body [1, 1, 1, 1, 1, 1, 1, 0, 1, 0] [] (K0 PP Go.Proofs.Try.f6)) n0 (St.of 46 [(3, .lp 3 0), (4, .bool x4), (5, .bool x5), (6, .int .i64 x6)] [(3, [.int .i64 y3_0, .sl 1 y3_1, .sl 3 y3_2])]) H) : ∀ x4 x5 x6 y3_0 y3_1 y3_2 H, laws_FnIsMinimal.j1 rec k L0 x4 x5 x6 y3_0 y3_1 y3_2 H = ex PP (orc laws_FnIsMinimal.id) rec k (sub laws_FnIsMinimal.body [1, 1, 1, 1, 1, 1, 1, 0, 1, 0, 0, 1, 1]) (St.of 46 [(3, .lp 3 0), (4, .bool x4), (5, .bool x5), (6, .int .i64 x6)] [(3, [.int .i64 y3_0, .sl 1 y3_1, .sl 3 y3_2])]) H (kAt PP (orc laws_FnIsMinimal.id) rec k laws_FnIsMinimal.body [1, 1, 1, 1, 1, 1, 1, 0, 1, 0, 0, 1, 1] [n0] (K0 PP Go.Proofs.Try.f6)) := by
  intros x4 x5 x6 y3_0 y3_1 y3_2 H
  unfold laws_FnIsMinimal.j1
  try simp only [hL0, -eq_self]
  kernel_rfl
theorem laws_FnIsMinimal.j2_eq (rec : Rec) (k : Nat) : ∀ x4 x5 H, laws_FnIsMinimal.j2 rec k x4 x5 H = ex PP (orc laws_FnIsMinimal.id) rec k (sub laws_FnIsMinimal.body [1, 1, 1, 1, 1, 1, 1, 1]) (St.of 46 [(4, .bool x4), (5, .bool x5)] []) H (kAt PP (orc laws_FnIsMinimal.id) rec k laws_FnIsMinimal.body [1, 1, 1, 1, 1, 1, 1, 1] [] (K0 PP Go.Proofs.Try.f6)) := by
  intros x4 x5 H
  unfold laws_FnIsMinimal.j2
  kernel_rfl
theorem laws_FnIsMinimal.l0_eq (rec : Rec) (k : Nat) : ∀ n x4 x5 x6 y3_0 y3_1 y3_2 H, laws_FnIsMinimal.l0 rec k n x4 x5 x6 y3_0 y3_1 y3_2 H = iter ((orc laws_FnIsMinimal.id).at (lbody (sub laws_FnIsMinimal.body [1, 1, 1, 1, 1, 1, 1, 0, 1, 0]))) (ex PP (orc laws_FnIsMinimal.id) rec k (lbody (sub laws_FnIsMinimal.body [1, 1, 1, 1, 1, 1, 1, 0, 1, 0]))) (kAt PP (orc laws_FnIsMinimal.id) rec k laws_FnIsMinimal.body [1, 1, 1, 1, 1, 1, 1, 0, 1, 0] [] (K0 PP Go.Proofs.Try.f6)) n (St.of 46 [(3, .lp 3 0), (4, .bool x4), (5, .bool x5), (6, .int .i64 x6)] [(3, [.int .i64 y3_0, .sl 1 y3_1, .sl 3 y3_2])]) H := by
  intro n
  induction n with
  | zero => intros; rfl
  | succ n ih =>
    intros x4 x5 x6 y3_0 y3_1 y3_2 H
    simp only [laws_FnIsMinimal.l0, laws_FnIsMinimal.j1_eq rec k n (laws_FnIsMinimal.l0 rec k n) (fun x4 x5 x6 y3_0 y3_1 y3_2 H => ih x4 x5 x6 y3_0 y3_1 y3_2 H), laws_FnIsMinimal.j2_eq rec k, ih, -eq_self]
    kernel_rfl
theorem laws_FnIsMinimal.f_eq (rec : Rec) (k : Nat) : ∀ a0 H, laws_FnIsMinimal.f rec k a0 H = ex PP (orc laws_FnIsMinimal.id) rec k laws_FnIsMinimal.body (St.of 46 [(0, .sl 1 a0)] []) H (K0 PP Go.Proofs.Try.f6) := by
  intros a0 H
  unfold laws_FnIsMinimal.f
  try simp only [laws_FnIsMinimal.l0_eq rec k, -eq_self]
  kernel_rfl
theorem laws_FnIsMinimal.call (k : Nat) : ∀ a0 H, callF PP orc (k + 1) laws_FnIsMinimal.id [.sl 1 a0] H = laws_FnIsMinimal.f (callF PP orc k) k a0 H := by
  intros a0 H
  rw [callF_at (fn := Go.Proofs.Try.f6) (c := laws_FnIsMinimal.body) Go.Proofs.Try.func6 (by kernel_rfl) (Nat.le_of_ble_eq_true (by kernel_rfl)), laws_FnIsMinimal.f_eq]
  kernel_rfl
noncomputable def spec_DrawIsMinimal.body : Code := (Go.Proofs.Try.f29).body.getD .skip
noncomputable def spec_DrawIsMinimal.f (rec : Rec) (k : Nat) (a0 : Sl) (H : Hp) : An := (rec spec_l20Open.id [.sl 1 a0] H).bind fun r1 => r1.1.toP.bind fun p2 => (rec spec_l20Puzzle.id [.ptr p2.1 p2.2, .int .i64 12] r1.2).bind fun r3 => bif r3.1.isAgg 3 then ((r3.1.cel 0).toI .i64).bind fun n4 => ((r3.1.cel 1).toS 1).bind fun s5 => ((r3.1.cel 2).toS 3).bind fun s6 => some (.agg [.int .i64 n4, .sl 1 s5, .sl 3 s6], r3.2) else none
theorem spec_DrawIsMinimal.f_eq (rec : Rec) (k : Nat) : ∀ a0 H, spec_DrawIsMinimal.f rec k a0 H = ex PP (orc spec_DrawIsMinimal.id) rec k spec_DrawIsMinimal.body (St.of 6 [(0, .sl 1 a0)] []) H (K0 PP Go.Proofs.Try.f29) := by
  intros a0 H
  unfold spec_DrawIsMinimal.f
  kernel_rfl
theorem spec_DrawIsMinimal.call (k : Nat) : ∀ a0 H, callF PP orc (k + 1) spec_DrawIsMinimal.id [.sl 1 a0] H = spec_DrawIsMinimal.f (callF PP orc k) k a0 H := by
  intros a0 H
  rw [callF_at (fn := Go.Proofs.Try.f29) (c := spec_DrawIsMinimal.body) Go.Proofs.Try.func29 (by kernel_rfl) (Nat.le_of_ble_eq_true (by kernel_rfl)), spec_DrawIsMinimal.f_eq]
  kernel_rfl
noncomputable def spec_IsMinimal.body : Code := (Go.Proofs.Try.f31).body.getD .skip
noncomputable def spec_IsMinimal.l2 (rec : Rec) (k : Nat) : Nat → Int → Int → Sl → Sl → Hp → An
  | 0, _, _, _, _, _ => none
  | n + 1, x3, y1_0, y1_1, y1_2, H => bif decide (x3 < (y1_1.len : Int)) then (rec spec_IsRedundant.id [.agg [.int .i64 y1_0, .sl 1 y1_1, .sl 3 y1_2], .int .i64 x3] H).bind fun r5 => r5.1.toB.bind fun b6 => bif b6 then some (.bool false, r5.2) else (spec_IsMinimal.l2 rec k n) (IntKind.i64.wrap (x3 + 1)) y1_0 y1_1 y1_2 r5.2 else some (.bool true, H)
noncomputable def spec_IsMinimal.j1 (rec : Rec) (k : Nat) (y1_0 : Int) (y1_1 : Sl) (y1_2 : Sl) (H : Hp) : An := spec_IsMinimal.l2 rec k k 0 y1_0 y1_1 y1_2 H
noncomputable def spec_IsMinimal.j0 (rec : Rec) (k : Nat) (x11 : Bool) (y1_0 : Int) (y1_1 : Sl) (y1_2 : Sl) (H : Hp) : An := bif x11 then some (.bool false, H) else spec_IsMinimal.j1 rec k y1_0 y1_1 y1_2 H
noncomputable def spec_IsMinimal.f (rec : Rec) (k : Nat) (a0_0 : Int) (a0_1 : Sl) (a0_2 : Sl) (H : Hp) : An := (rec spec_PuzzleValid.id [.agg [.int .i64 a0_0, .sl 1 a0_1, .sl 3 a0_2]] H).bind fun r1 => r1.1.toB.bind fun b2 => bif !b2 then spec_IsMinimal.j0 rec k true a0_0 a0_1 a0_2 r1.2 else (rec spec_l10One.id [.agg [.int .i64 a0_0, .sl 1 a0_1, .sl 3 a0_2]] r1.2).bind fun r3 => r3.1.toB.bind fun b4 => spec_IsMinimal.j0 rec k (!b4) a0_0 a0_1 a0_2 r3.2
theorem spec_IsMinimal.l2_eq (rec : Rec) (k : Nat) : ∀ n x3 y1_0 y1_1 y1_2 H, spec_IsMinimal.l2 rec k n x3 y1_0 y1_1 y1_2 H = iter ((orc spec_IsMinimal.id).at (lbody (sub spec_IsMinimal.body [1, 1, 0, 1, 0]))) (ex PP (orc spec_IsMinimal.id) rec k (lbody (sub spec_IsMinimal.body [1, 1, 0, 1, 0]))) (kAt PP (orc spec_IsMinimal.id) rec k spec_IsMinimal.body [1, 1, 0, 1, 0] [] (K0 PP Go.Proofs.Try.f31)) n (St.of 22 [(1, .lp 1 0), (3, .int .i64 x3)] [(1, [.int .i64 y1_0, .sl 1 y1_1, .sl 3 y1_2])]) H := by
  intro n
  induction n with
  | zero => intros; rfl
  | succ n ih =>
    intros x3 y1_0 y1_1 y1_2 H
    simp only [spec_IsMinimal.l2, ih, -eq_self]
    kernel_rfl
theorem spec_IsMinimal.j1_eq (rec : Rec) (k : Nat) : ∀ y1_0 y1_1 y1_2 H, spec_IsMinimal.j1 rec k y1_0 y1_1 y1_2 H = ex PP (orc spec_IsMinimal.id) rec k (sub spec_IsMinimal.body [1, 1]) (St.of 22 [(1, .lp 1 0)] [(1, [.int .i64 y1_0, .sl 1 y1_1, .sl 3 y1_2])]) H (kAt PP (orc spec_IsMinimal.id) rec k spec_IsMinimal.body [1, 1] [] (K0 PP Go.Proofs.Try.f31)) := by
  intros y1_0 y1_1 y1_2 H
  unfold spec_IsMinimal.j1
  try simp only [spec_IsMinimal.l2_eq rec k, -eq_self]
  kernel_rfl
theorem spec_IsMinimal.j0_eq (rec : Rec) (k : Nat) : ∀ x11 y1_0 y1_1 y1_2 H, spec_IsMinimal.j0 rec k x11 y1_0 y1_1 y1_2 H = ex PP (orc spec_IsMinimal.id) rec k (sub spec_IsMinimal.body [1, 0, 1]) (St.of 22 [(1, .lp 1 0), (11, .bool x11)] [(1, [.int .i64 y1_0, .sl 1 y1_1, .sl 3 y1_2])]) H (kAt PP (orc spec_IsMinimal.id) rec k spec_IsMinimal.body [1, 0, 1] [] (K0 PP Go.Proofs.Try.f31)) := by
  intros x11 y1_0 y1_1 y1_2 H
  unfold spec_IsMinimal.j0
  try simp only [spec_IsMinimal.j1_eq rec k, -eq_self]
  kernel_rfl
theorem spec_IsMinimal.f_eq (rec : Rec) (k : Nat) : ∀ a0_0 a0_1 a0_2 H, spec_IsMinimal.f rec k a0_0 a0_1 a0_2 H = ex PP (orc spec_IsMinimal.id) rec k spec_IsMinimal.body (St.of 22 [(0, .agg [.int .i64 a0_0, .sl 1 a0_1, .sl 3 a0_2])] []) H (K0 PP Go.Proofs.Try.f31) := by
  intros a0_0 a0_1 a0_2 H
  unfold spec_IsMinimal.f
  try simp only [spec_IsMinimal.j0_eq rec k, -eq_self]
  kernel_rfl
theorem spec_IsMinimal.call (k : Nat) : ∀ a0_0 a0_1 a0_2 H, callF PP orc (k + 1) spec_IsMinimal.id [.agg [.int .i64 a0_0, .sl 1 a0_1, .sl 3 a0_2]] H = spec_IsMinimal.f (callF PP orc k) k a0_0 a0_1 a0_2 H := by
  intros a0_0 a0_1 a0_2 H
  rw [callF_at (fn := Go.Proofs.Try.f31) (c := spec_IsMinimal.body) Go.Proofs.Try.func31 (by kernel_rfl) (Nat.le_of_ble_eq_true (by kernel_rfl)), spec_IsMinimal.f_eq]
  kernel_rfl
end Go.Proofs.Ytpgdfpkkeioabaa.Rp
/- Functions of the program as plain Lean functions. No conditions. -/
set_option linter.unusedVariables false
set_option linter.unusedSimpArgs false
set_option maxRecDepth 100000
namespace Go.Proofs.Ytpgdfpkkeioabaa.Rp
open Go Go.Proofs.Ytpgdfpkkeioabaa.Ab
noncomputable def laws_FnMakeMinimal.body : Code := (Go.Proofs.Try.f11).body.getD .skip
noncomputable def laws_FnMakeMinimal.j4 (rec : Rec) (k : Nat) (y3_0 : Int) (y3_1 : Sl) (y3_2 : Sl) (y4_0 : Int) (y4_1 : Sl) (y4_2 : Sl) (H : Hp) : An := (rec impl_SolveFirst.id [.agg [.int .i64 y3_0, .sl 1 y3_1, .sl 3 y3_2]] H).bind fun r22 => bif r22.1.isTup 2 then ((r22.1.nth 0).toS 1).bind fun s23 => (r22.1.nth 1).toB.bind fun b24 => (rec impl_SolveFirst.id [.agg [.int .i64 y4_0, .sl 1 y4_1, .sl 3 y4_2]] r22.2).bind fun r25 => bif r25.1.isTup 2 then ((r25.1.nth 0).toS 1).bind fun s26 => (r25.1.nth 1).toB.bind fun b27 => (rec impl_IsMinimal.id [.agg [.int .i64 y4_0, .sl 1 y4_1, .sl 3 y4_2]] r25.2).bind fun r28 => r28.1.toB.bind fun b29 => bif b29 then (rec laws_sameInts.id [.sl 1 s23, .sl 1 s26] r28.2).bind fun r30 => r30.1.toB.bind fun b31 => some (.bool b31, r30.2) else some (.bool false, r28.2) else none else none
noncomputable def laws_FnMakeMinimal.j5 (rec : Rec) (k : Nat) (L2 : Int → Int → Sl → Sl → Int → Sl → Sl → Hp → An) (x8 : Int) (y3_0 : Int) (y3_1 : Sl) (y3_2 : Sl) (y4_0 : Int) (y4_1 : Sl) (y4_2 : Sl) (H : Hp) : An := L2 (IntKind.i64.wrap (x8 + 1)) y3_0 y3_1 y3_2 y4_0 y4_1 y4_2 H
noncomputable def laws_FnMakeMinimal.j3 (rec : Rec) (k : Nat) (L2 : Int → Int → Sl → Sl → Int → Sl → Sl → Hp → An) (x8 : Int) (x70 : Bool) (y3_0 : Int) (y3_1 : Sl) (y3_2 : Sl) (y4_0 : Int) (y4_1 : Sl) (y4_2 : Sl) (H : Hp) : An := bif x70 then some (.bool false, H) else laws_FnMakeMinimal.j5 rec k L2 x8 y3_0 y3_1 y3_2 y4_0 y4_1 y4_2 H
noncomputable def laws_FnMakeMinimal.l2 (rec : Rec) (k : Nat) : Nat → Int → Int → Sl → Sl → Int → Sl → Sl → Hp → An
  | 0, _, _, _, _, _, _, _, _ => none
  | n + 1, x8, y3_0, y3_1, y3_2, y4_0, y4_1, y4_2, H => bif decide (x8 < (y4_1.len : Int)) then bif decide (0 ≤ (x8 : Int)) && decide ((x8 : Int) < y4_1.len) then (ldI .i64 H y4_1.blk (y4_1.off + (x8 : Int).toNat * 1)).bind fun n19 => bif n19 != 0 then bif decide (0 ≤ (x8 : Int)) && decide ((x8 : Int) < y4_1.len) then (ldI .i64 H y4_1.blk (y4_1.off + (x8 : Int).toNat * 1)).bind fun n20 => bif decide (0 ≤ (x8 : Int)) && decide ((x8 : Int) < y3_1.len) then (ldI .i64 H y3_1.blk (y3_1.off + (x8 : Int).toNat * 1)).bind fun n21 => laws_FnMakeMinimal.j3 rec k (laws_FnMakeMinimal.l2 rec k n) x8 (n20 != n21) y3_0 y3_1 y3_2 y4_0 y4_1 y4_2 H else none else none else laws_FnMakeMinimal.j3 rec k (laws_FnMakeMinimal.l2 rec k n) x8 false y3_0 y3_1 y3_2 y4_0 y4_1 y4_2 H else none else laws_FnMakeMinimal.j4 rec k y3_0 y3_1 y3_2 y4_0 y4_1 y4_2 H
noncomputable def laws_FnMakeMinimal.j1 (rec : Rec) (k : Nat) (x5 : Bool) (y3_0 : Int) (y3_1 : Sl) (y3_2 : Sl) (y4_0 : Int) (y4_1 : Sl) (y4_2 : Sl) (H : Hp) : An := bif !x5 then bif y4_0 == 0 then (rec laws_alive.id [] H).bind fun r17 => r17.1.toB.bind fun b18 => some (.bool b18, r17.2) else some (.bool false, H) else laws_FnMakeMinimal.l2 rec k k 0 y3_0 y3_1 y3_2 y4_0 y4_1 y4_2 H
noncomputable def laws_FnMakeMinimal.j0 (rec : Rec) (k : Nat) (x5 : Bool) (x36 : Bool) (y3_0 : Int) (y3_1 : Sl) (y3_2 : Sl) (y4_0 : Int) (y4_1 : Sl) (y4_2 : Sl) (H : Hp) : An := bif x36 then some (.bool false, H) else laws_FnMakeMinimal.j1 rec k x5 y3_0 y3_1 y3_2 y4_0 y4_1 y4_2 H
noncomputable def laws_FnMakeMinimal.f (rec : Rec) (k : Nat) (a0 : Sl) (H : Hp) : An := bif decide ((a0.len : Int) > 1048576) then some (.bool true, H) else (rec spec_DrawMakeMinimal.id [.sl 1 a0] H).bind fun r1 => bif r1.1.isAgg 3 then ((r1.1.cel 0).toI .i64).bind fun n2 => ((r1.1.cel 1).toS 1).bind fun s3 => ((r1.1.cel 2).toS 3).bind fun s4 => (rec impl_MakeMinimal.id [.agg [.int .i64 n2, .sl 1 s3, .sl 3 s4]] r1.2).bind fun r5 => bif r5.1.isTup 2 then bif (r5.1.nth 0).isAgg 3 then (((r5.1.nth 0).cel 0).toI .i64).bind fun n6 => (((r5.1.nth 0).cel 1).toS 1).bind fun s7 => (((r5.1.nth 0).cel 2).toS 3).bind fun s8 => (r5.1.nth 1).toB.bind fun b9 => (rec spec_MakeMinimal.id [.agg [.int .i64 n2, .sl 1 s3, .sl 3 s4]] r5.2).bind fun r10 => bif r10.1.isTup 2 then bif (r10.1.nth 0).isAgg 3 then (((r10.1.nth 0).cel 0).toI .i64).bind fun n11 => (((r10.1.nth 0).cel 1).toS 1).bind fun s12 => (((r10.1.nth 0).cel 2).toS 3).bind fun s13 => (r10.1.nth 1).toB.bind fun b14 => (rec laws_samePuzzle.id [.agg [.int .i64 n6, .sl 1 s7, .sl 3 s8], .agg [.int .i64 n11, .sl 1 s12, .sl 3 s13]] r10.2).bind fun r15 => r15.1.toB.bind fun b16 => bif !b16 then laws_FnMakeMinimal.j0 rec k b9 true n2 s3 s4 n6 s7 s8 r15.2 else laws_FnMakeMinimal.j0 rec k b9 (!(b9 == b14)) n2 s3 s4 n6 s7 s8 r15.2 else none else none else none else none else none
theorem laws_FnMakeMinimal.j4_eq (rec : Rec) (k : Nat) : ∀ y3_0 y3_1 y3_2 y4_0 y4_1 y4_2 H, laws_FnMakeMinimal.j4 rec k y3_0 y3_1 y3_2 y4_0 y4_1 y4_2 H = ex PP (orc laws_FnMakeMinimal.id) rec k (sub laws_FnMakeMinimal.body [1, 1, 1, 1, 1, 1, 1, 1]) (St.of 88 [(3, .lp 3 0), (4, .lp 4 0)] [(3, [.int .i64 y3_0, .sl 1 y3_1, .sl 3 y3_2]), (4, [.int .i64 y4_0, .sl 1 y4_1, .sl 3 y4_2])]) H (kAt PP (orc laws_FnMakeMinimal.id) rec k laws_FnMakeMinimal.body [1, 1, 1, 1, 1, 1, 1, 1] [] (K0 PP Go.Proofs.Try.f11)) := by
  intros y3_0 y3_1 y3_2 y4_0 y4_1 y4_2 H
  unfold laws_FnMakeMinimal.j4
  kernel_rfl
theorem laws_FnMakeMinimal.j5_eq (rec : Rec) (k : Nat) (n2 : Nat) (L2 : Int → Int → Sl → Sl → Int → Sl → Sl → Hp → An) (hL2 : ∀ x8 y3_0 y3_1 y3_2 y4_0 y4_1 y4_2 H, L2 x8 y3_0 y3_1 y3_2 y4_0 y4_1 y4_2 H = iter ((orc laws_FnMakeMinimal.id).at (lbody (sub laws_FnMakeMinimal.body [1, 1, 1, 1, 1, 1, 1, 0, 1, 0]))) (ex PP (orc laws_FnMakeMinimal.id) rec k (lbody (sub laws_FnMakeMinimal.body [1, 1, 1, 1, 1, 1, 1, 0, 1, 0]))) (kAt PP (orc laws_FnMakeMinimal.id) rec k laws_FnMakeMinimal.body [1, 1, 1, 1, 1, 1, 1, 0, 1, 0] [] (K0 PP Go.Proofs.Try.f11)) n2 (St.of 88 [(3, .lp 3 0), (4, .lp 4 0), (8, .int .i64 x8)] [(3, [.int .i64 y3_0, .sl 1 y3_1, .sl 3 y3_2]), (4, [.int .i64 y4_0, .sl 1 y4_1, .sl 3 y4_2])]) H) : ∀ x8 y3_0 y3_1 y3_2 y4_0 y4_1 y4_2 H, laws_FnMakeMinimal.j5 rec k L2 x8 y3_0 y3_1 y3_2 y4_0 y4_1 y4_2 H = ex PP (orc laws_FnMakeMinimal.id) rec k (sub laws_FnMakeMinimal.body [1, 1, 1, 1, 1, 1, 1, 0, 1, 0, 0, 1, 1]) (St.of 88 [(3, .lp 3 0), (4, .lp 4 0), (8, .int .i64 x8)] [(3, [.int .i64 y3_0, .sl 1 y3_1, .sl 3 y3_2]), (4, [.int .i64 y4_0, .sl 1 y4_1, .sl 3 y4_2])]) H (kAt PP (orc laws_FnMakeMinimal.id) rec k laws_FnMakeMinimal.body [1, 1, 1, 1, 1, 1, 1, 0, 1, 0, 0, 1, 1] [n2] (K0 PP Go.Proofs.Try.f11)) := by
  intros x8 y3_0 y3_1 y3_2 y4_0 y4_1 y4_2 H
  unfold laws_FnMakeMinimal.j5
  try simp only [hL2, -eq_self]
  kernel_rfl
theorem laws_FnMakeMinimal.j3_eq (rec : Rec) (k : Nat) (n2 : Nat) (L2 : Int → Int → Sl → Sl → Int → Sl → Sl → Hp → An) (hL2 : ∀ x8 y3_0 y3_1 y3_2 y4_0 y4_1 y4_2 H, L2 x8 y3_0 y3_1 y3_2 y4_0 y4_1 y4_2 H = iter ((orc laws_FnMakeMinimal.id).at (lbody (sub laws_FnMakeMinimal.body [1, 1, 1, 1, 1, 1, 1, 0, 1, 0]))) (ex PP (orc laws_FnMakeMinimal.id) rec k (lbody (sub laws_FnMakeMinimal.body [1, 1, 1, 1, 1, 1, 1, 0, 1, 0]))) (kAt PP (orc laws_FnMakeMinimal.id) rec k laws_FnMakeMinimal.body [1, 1, 1, 1, 1, 1, 1, 0, 1, 0] [] (K0 PP Go.Proofs.Try.f11)) n2 (St.of 88 [(3, .lp 3 0), (4, .lp 4 0), (8, .int .i64 x8)] [(3, [.int .i64 y3_0, .sl 1 y3_1, .sl 3 y3_2]), (4, [.int .i64 y4_0, .sl 1 y4_1, .sl 3 y4_2])]) H) : ∀ x8 x70 y3_0 y3_1 y3_2 y4_0 y4_1 y4_2 H, laws_FnMakeMinimal.j3 rec k L2 x8 x70 y3_0 y3_1 y3_2 y4_0 y4_1 y4_2 H = ex PP (orc laws_FnMakeMinimal.id) rec k (sub laws_FnMakeMinimal.body [1, 1, 1, 1, 1, 1, 1, 0, 1, 0, 0, 1, 0, 0, 1]) (St.of 88 [(3, .lp 3 0), (4, .lp 4 0), (8, .int .i64 x8), (70, .bool x70)] [(3, [.int .i64 y3_0, .sl 1 y3_1, .sl 3 y3_2]), (4, [.int .i64 y4_0, .sl 1 y4_1, .sl 3 y4_2])]) H (kAt PP (orc laws_FnMakeMinimal.id) rec k laws_FnMakeMinimal.body [1, 1, 1, 1, 1, 1, 1, 0, 1, 0, 0, 1, 0, 0, 1] [n2] (K0 PP Go.Proofs.Try.f11)) := by
  intros x8 x70 y3_0 y3_1 y3_2 y4_0 y4_1 y4_2 H
  unfold laws_FnMakeMinimal.j3
  try simp only [hL2, laws_FnMakeMinimal.j5_eq rec k n2 L2 hL2, -eq_self]
  kernel_rfl
theorem laws_FnMakeMinimal.l2_eq (rec : Rec) (k : Nat) : ∀ n x8 y3_0 y3_1 y3_2 y4_0 y4_1 y4_2 H, laws_FnMakeMinimal.l2 rec k n x8 y3_0 y3_1 y3_2 y4_0 y4_1 y4_2 H = iter ((orc laws_FnMakeMinimal.id).at (lbody (sub laws_FnMakeMinimal.body [1, 1, 1, 1, 1, 1, 1, 0, 1, 0]))) (ex PP (orc laws_FnMakeMinimal.id) rec k (lbody (sub laws_FnMakeMinimal.body [1, 1, 1, 1, 1, 1, 1, 0, 1, 0]))) (kAt PP (orc laws_FnMakeMinimal.id) rec k laws_FnMakeMinimal.body [1, 1, 1, 1, 1, 1, 1, 0, 1, 0] [] (K0 PP Go.Proofs.Try.f11)) n (St.of 88 [(3, .lp 3 0), (4, .lp 4 0), (8, .int .i64 x8)] [(3, [.int .i64 y3_0, .sl 1 y3_1, .sl 3 y3_2]), (4, [.int .i64 y4_0, .sl 1 y4_1, .sl 3 y4_2])]) H := by
  intro n
  induction n with
  | zero => intros; rfl
  | succ n ih =>
    intros x8 y3_0 y3_1 y3_2 y4_0 y4_1 y4_2 H
    simp only [laws_FnMakeMinimal.l2, laws_FnMakeMinimal.j3_eq rec k n (laws_FnMakeMinimal.l2 rec k n) (fun x8 y3_0 y3_1 y3_2 y4_0 y4_1 y4_2 H => ih x8 y3_0 y3_1 y3_2 y4_0 y4_1 y4_2 H), laws_FnMakeMinimal.j4_eq rec k, ih, -eq_self]
    kernel_rfl
theorem laws_FnMakeMinimal.j1_eq (rec : Rec) (k : Nat) : ∀ x5 y3_0 y3_1 y3_2 y4_0 y4_1 y4_2 H, laws_FnMakeMinimal.j1 rec k x5 y3_0 y3_1 y3_2 y4_0 y4_1 y4_2 H = ex PP (orc laws_FnMakeMinimal.id) rec k (sub laws_FnMakeMinimal.body [1, 1, 1, 1, 1, 1]) (St.of 88 [(3, .lp 3 0), (4, .lp 4 0), (5, .bool x5)] [(3, [.int .i64 y3_0, .sl 1 y3_1, .sl 3 y3_2]), (4, [.int .i64 y4_0, .sl 1 y4_1, .sl 3 y4_2])]) H (kAt PP (orc laws_FnMakeMinimal.id) rec k laws_FnMakeMinimal.body [1, 1, 1, 1, 1, 1] [] (K0 PP Go.Proofs.Try.f11)) := by
  intros x5 y3_0 y3_1 y3_2 y4_0 y4_1 y4_2 H
  unfold laws_FnMakeMinimal.j1
  try simp only [laws_FnMakeMinimal.l2_eq rec k, -eq_self]
  kernel_rfl
theorem laws_FnMakeMinimal.j0_eq (rec : Rec) (k : Nat) : ∀ x5 x36 y3_0 y3_1 y3_2 y4_0 y4_1 y4_2 H, laws_FnMakeMinimal.j0 rec k x5 x36 y3_0 y3_1 y3_2 y4_0 y4_1 y4_2 H = ex PP (orc laws_FnMakeMinimal.id) rec k (sub laws_FnMakeMinimal.body [1, 1, 1, 1, 1, 0, 1]) (St.of 88 [(3, .lp 3 0), (4, .lp 4 0), (5, .bool x5), (36, .bool x36)] [(3, [.int .i64 y3_0, .sl 1 y3_1, .sl 3 y3_2]), (4, [.int .i64 y4_0, .sl 1 y4_1, .sl 3 y4_2])]) H (kAt PP (orc laws_FnMakeMinimal.id) rec k laws_FnMakeMinimal.body [1, 1, 1, 1, 1, 0, 1] [] (K0 PP Go.Proofs.Try.f11)) := by
  intros x5 x36 y3_0 y3_1 y3_2 y4_0 y4_1 y4_2 H
  unfold laws_FnMakeMinimal.j0
  try simp only [laws_FnMakeMinimal.j1_eq rec k, -eq_self]
  kernel_rfl
theorem laws_FnMakeMinimal.f_eq (rec : Rec) (k : Nat) : ∀ a0 H, laws_FnMakeMinimal.f rec k a0 H = ex PP (orc laws_FnMakeMinimal.id) rec k laws_FnMakeMinimal.body (St.of 88 [(0, .sl 1 a0)] []) H (K0 PP Go.Proofs.Try.f11) := by
  intros a0 H
  unfold laws_FnMakeMinimal.f
  try simp only [laws_FnMakeMinimal.j0_eq rec k, -eq_self]
  kernel_rfl
theorem laws_FnMakeMinimal.call (k : Nat) : ∀ a0 H, callF PP orc (k + 1) laws_FnMakeMinimal.id [.sl 1 a0] H = laws_FnMakeMinimal.f (callF PP orc k) k a0 H := by
  intros a0 H
  rw [callF_at (fn := Go.Proofs.Try.f11) (c := laws_FnMakeMinimal.body) Go.Proofs.Try.func11 (by kernel_rfl) (Nat.le_of_ble_eq_true (by kernel_rfl)), laws_FnMakeMinimal.f_eq]
  kernel_rfl
noncomputable def spec_DrawMakeMinimal.body : Code := (Go.Proofs.Try.f35).body.getD .skip
noncomputable def spec_DrawMakeMinimal.f (rec : Rec) (k : Nat) (a0 : Sl) (H : Hp) : An := (rec spec_l20Open.id [.sl 1 a0] H).bind fun r1 => r1.1.toP.bind fun p2 => (rec spec_l20Puzzle.id [.ptr p2.1 p2.2, .int .i64 12] r1.2).bind fun r3 => bif r3.1.isAgg 3 then ((r3.1.cel 0).toI .i64).bind fun n4 => ((r3.1.cel 1).toS 1).bind fun s5 => ((r3.1.cel 2).toS 3).bind fun s6 => some (.agg [.int .i64 n4, .sl 1 s5, .sl 3 s6], r3.2) else none
theorem spec_DrawMakeMinimal.f_eq (rec : Rec) (k : Nat) : ∀ a0 H, spec_DrawMakeMinimal.f rec k a0 H = ex PP (orc spec_DrawMakeMinimal.id) rec k spec_DrawMakeMinimal.body (St.of 6 [(0, .sl 1 a0)] []) H (K0 PP Go.Proofs.Try.f35) := by
  intros a0 H
  unfold spec_DrawMakeMinimal.f
  kernel_rfl
theorem spec_DrawMakeMinimal.call (k : Nat) : ∀ a0 H, callF PP orc (k + 1) spec_DrawMakeMinimal.id [.sl 1 a0] H = spec_DrawMakeMinimal.f (callF PP orc k) k a0 H := by
  intros a0 H
  rw [callF_at (fn := Go.Proofs.Try.f35) (c := spec_DrawMakeMinimal.body) Go.Proofs.Try.func35 (by kernel_rfl) (Nat.le_of_ble_eq_true (by kernel_rfl)), spec_DrawMakeMinimal.f_eq]
  kernel_rfl
end Go.Proofs.Ytpgdfpkkeioabaa.Rp
/- Functions of the program as plain Lean functions. No conditions. -/
set_option linter.unusedVariables false
set_option linter.unusedSimpArgs false
set_option maxRecDepth 100000
namespace Go.Proofs.Ytpgdfpkkeioabaa.Rp
open Go Go.Proofs.Ytpgdfpkkeioabaa.Ab
noncomputable def laws_FnMinimalAgain.body : Code := (Go.Proofs.Try.f9).body.getD .skip
noncomputable def laws_FnMinimalAgain.j1 (rec : Rec) (k : Nat) (x5 : Bool) (y4_0 : Int) (y4_1 : Sl) (y4_2 : Sl) (H : Hp) : An := bif !x5 then (rec laws_alive.id [] H).bind fun r17 => r17.1.toB.bind fun b18 => some (.bool b18, r17.2) else (rec impl_MakeMinimal.id [.agg [.int .i64 y4_0, .sl 1 y4_1, .sl 3 y4_2]] H).bind fun r19 => bif r19.1.isTup 2 then bif (r19.1.nth 0).isAgg 3 then (((r19.1.nth 0).cel 0).toI .i64).bind fun n20 => (((r19.1.nth 0).cel 1).toS 1).bind fun s21 => (((r19.1.nth 0).cel 2).toS 3).bind fun s22 => (r19.1.nth 1).toB.bind fun b23 => bif b23 then (rec laws_samePuzzle.id [.agg [.int .i64 n20, .sl 1 s21, .sl 3 s22], .agg [.int .i64 y4_0, .sl 1 y4_1, .sl 3 y4_2]] r19.2).bind fun r24 => r24.1.toB.bind fun b25 => some (.bool b25, r24.2) else some (.bool false, r19.2) else none else none
noncomputable def laws_FnMinimalAgain.j0 (rec : Rec) (k : Nat) (x5 : Bool) (x33 : Bool) (y4_0 : Int) (y4_1 : Sl) (y4_2 : Sl) (H : Hp) : An := bif x33 then some (.bool false, H) else laws_FnMinimalAgain.j1 rec k x5 y4_0 y4_1 y4_2 H
noncomputable def laws_FnMinimalAgain.f (rec : Rec) (k : Nat) (a0 : Sl) (H : Hp) : An := bif decide ((a0.len : Int) > 1048576) then some (.bool true, H) else (rec spec_DrawMakeMinimal.id [.sl 1 a0] H).bind fun r1 => bif r1.1.isAgg 3 then ((r1.1.cel 0).toI .i64).bind fun n2 => ((r1.1.cel 1).toS 1).bind fun s3 => ((r1.1.cel 2).toS 3).bind fun s4 => (rec impl_MakeMinimal.id [.agg [.int .i64 n2, .sl 1 s3, .sl 3 s4]] r1.2).bind fun r5 => bif r5.1.isTup 2 then bif (r5.1.nth 0).isAgg 3 then (((r5.1.nth 0).cel 0).toI .i64).bind fun n6 => (((r5.1.nth 0).cel 1).toS 1).bind fun s7 => (((r5.1.nth 0).cel 2).toS 3).bind fun s8 => (r5.1.nth 1).toB.bind fun b9 => (rec spec_MakeMinimal.id [.agg [.int .i64 n2, .sl 1 s3, .sl 3 s4]] r5.2).bind fun r10 => bif r10.1.isTup 2 then bif (r10.1.nth 0).isAgg 3 then (((r10.1.nth 0).cel 0).toI .i64).bind fun n11 => (((r10.1.nth 0).cel 1).toS 1).bind fun s12 => (((r10.1.nth 0).cel 2).toS 3).bind fun s13 => (r10.1.nth 1).toB.bind fun b14 => (rec laws_samePuzzle.id [.agg [.int .i64 n6, .sl 1 s7, .sl 3 s8], .agg [.int .i64 n11, .sl 1 s12, .sl 3 s13]] r10.2).bind fun r15 => r15.1.toB.bind fun b16 => bif !b16 then laws_FnMinimalAgain.j0 rec k b9 true n6 s7 s8 r15.2 else laws_FnMinimalAgain.j0 rec k b9 (!(b9 == b14)) n6 s7 s8 r15.2 else none else none else none else none else none
theorem laws_FnMinimalAgain.j1_eq (rec : Rec) (k : Nat) : ∀ x5 y4_0 y4_1 y4_2 H, laws_FnMinimalAgain.j1 rec k x5 y4_0 y4_1 y4_2 H = ex PP (orc laws_FnMinimalAgain.id) rec k (sub laws_FnMinimalAgain.body [1, 1, 1, 1, 1, 1]) (St.of 48 [(4, .lp 4 0), (5, .bool x5)] [(4, [.int .i64 y4_0, .sl 1 y4_1, .sl 3 y4_2])]) H (kAt PP (orc laws_FnMinimalAgain.id) rec k laws_FnMinimalAgain.body [1, 1, 1, 1, 1, 1] [] (K0 PP Go.Proofs.Try.f9)) := by
  intros x5 y4_0 y4_1 y4_2 H
  unfold laws_FnMinimalAgain.j1
  kernel_rfl
theorem laws_FnMinimalAgain.j0_eq (rec : Rec) (k : Nat) : ∀ x5 x33 y4_0 y4_1 y4_2 H, laws_FnMinimalAgain.j0 rec k x5 x33 y4_0 y4_1 y4_2 H = ex PP (orc laws_FnMinimalAgain.id) rec k (sub laws_FnMinimalAgain.body [1, 1, 1, 1, 1, 0, 1]) (St.of 48 [(4, .lp 4 0), (5, .bool x5), (33, .bool x33)] [(4, [.int .i64 y4_0, .sl 1 y4_1, .sl 3 y4_2])]) H (kAt PP (orc laws_FnMinimalAgain.id) rec k laws_FnMinimalAgain.body [1, 1, 1, 1, 1, 0, 1] [] (K0 PP Go.Proofs.Try.f9)) := by
  intros x5 x33 y4_0 y4_1 y4_2 H
  unfold laws_FnMinimalAgain.j0
  try simp only [laws_FnMinimalAgain.j1_eq rec k, -eq_self]
  kernel_rfl
theorem laws_FnMinimalAgain.f_eq (rec : Rec) (k : Nat) : ∀ a0 H, laws_FnMinimalAgain.f rec k a0 H = ex PP (orc laws_FnMinimalAgain.id) rec k laws_FnMinimalAgain.body (St.of 48 [(0, .sl 1 a0)] []) H (K0 PP Go.Proofs.Try.f9) := by
  intros a0 H
  unfold laws_FnMinimalAgain.f
  try simp only [laws_FnMinimalAgain.j0_eq rec k, -eq_self]
  kernel_rfl
theorem laws_FnMinimalAgain.call (k : Nat) : ∀ a0 H, callF PP orc (k + 1) laws_FnMinimalAgain.id [.sl 1 a0] H = laws_FnMinimalAgain.f (callF PP orc k) k a0 H := by
  intros a0 H
  rw [callF_at (fn := Go.Proofs.Try.f9) (c := laws_FnMinimalAgain.body) Go.Proofs.Try.func9 (by kernel_rfl) (Nat.le_of_ble_eq_true (by kernel_rfl)), laws_FnMinimalAgain.f_eq]
  kernel_rfl
end Go.Proofs.Ytpgdfpkkeioabaa.Rp
