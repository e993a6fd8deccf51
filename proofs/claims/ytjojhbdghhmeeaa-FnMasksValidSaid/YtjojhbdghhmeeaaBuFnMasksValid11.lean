/- Texts for the row of the law FnMasksValid, part 11: the plain machine, the program's functions on it, what they come to. No conditions. -/
import Derived.Test.YtjojhbdghhmeeaaAb
import Derived.Test.YtjojhbdghhmeeaaOr
import Derived.Test.YtjojhbdghhmeeaaBuFnMasksValid10
import Derived.Test.YtjojhbdghhmeeaaBuFnMasksValid9
/- Functions of the program as plain Lean functions. No conditions. -/
set_option linter.unusedVariables false
set_option linter.unusedSimpArgs false
set_option maxRecDepth 100000
namespace Go.Proofs.Ytjojhbdghhmeeaa.Rp
open Go Go.Proofs.Ytjojhbdghhmeeaa.Ab
noncomputable def spec_StartMasks.body : Code := (Go.Proofs.Try.f55).body.getD .skip
noncomputable def spec_StartMasks.j3 (rec : Rec) (k : Nat) (x3 : Sl) (H : Hp) : An := some (.sl 1 x3, H)
noncomputable def spec_StartMasks.j4 (rec : Rec) (k : Nat) (L0 : Sl → Int → Int → Sl → Sl → Hp → An) (x3 : Sl) (x4 : Int) (y1_0 : Int) (y1_1 : Sl) (y1_2 : Sl) (H : Hp) : An := L0 x3 (IntKind.i64.wrap (x4 + 1)) y1_0 y1_1 y1_2 H
noncomputable def spec_StartMasks.j2 (rec : Rec) (k : Nat) (L0 : Sl → Int → Int → Sl → Sl → Hp → An) (x3 : Sl) (x4 : Int) (y1_0 : Int) (y1_1 : Sl) (y1_2 : Sl) (H : Hp) : An := bif decide (0 ≤ (x4 : Int)) && decide ((x4 : Int) < y1_1.len) then (ldI .i64 H y1_1.blk (y1_1.off + (x4 : Int).toNat * 1)).bind fun n3 => bif decide (n3 > 0) then bif decide (0 ≤ (x4 : Int)) && decide ((x4 : Int) < y1_1.len) then (ldI .i64 H y1_1.blk (y1_1.off + (x4 : Int).toNat * 1)).bind fun n4 => if (n4 : Int) < 0 then none else (H.app 1 x3 1 [.int .i64 (IntKind.i64.wrap (1 * 2 ^ (min (n4 : Int).toNat IntKind.i64.bits)))]).bind fun w5 => spec_StartMasks.j4 rec k L0 w5.1 x4 y1_0 y1_1 y1_2 w5.2 else none else if (IntKind.i64.wrap (y1_0 + 1) : Int) < 0 then none else (H.app 1 x3 1 [.int .i64 (IntKind.i64.wrap ((IntKind.i64.wrap (1 * 2 ^ (min (IntKind.i64.wrap (y1_0 + 1) : Int).toNat IntKind.i64.bits))) - 2))]).bind fun w6 => spec_StartMasks.j4 rec k L0 w6.1 x4 y1_0 y1_1 y1_2 w6.2 else none
noncomputable def spec_StartMasks.j1 (rec : Rec) (k : Nat) (L0 : Sl → Int → Int → Sl → Sl → Hp → An) (x3 : Sl) (x4 : Int) (x14 : Bool) (y1_0 : Int) (y1_1 : Sl) (y1_2 : Sl) (H : Hp) : An := bif x14 then spec_StartMasks.j2 rec k L0 x3 x4 y1_0 y1_1 y1_2 H else spec_StartMasks.j3 rec k x3 H
noncomputable def spec_StartMasks.l0 (rec : Rec) (k : Nat) : Nat → Sl → Int → Int → Sl → Sl → Hp → An
  | 0, _, _, _, _, _, _ => none
  | n + 1, x3, x4, y1_0, y1_1, y1_2, H => bif decide (x4 < (y1_1.len : Int)) then (rec spec_PuzzleValid.id [.agg [.int .i64 y1_0, .sl 1 y1_1, .sl 3 y1_2]] H).bind fun r1 => r1.1.toB.bind fun b2 => spec_StartMasks.j1 rec k (spec_StartMasks.l0 rec k n) x3 x4 b2 y1_0 y1_1 y1_2 r1.2 else spec_StartMasks.j1 rec k (spec_StartMasks.l0 rec k n) x3 x4 false y1_0 y1_1 y1_2 H
noncomputable def spec_StartMasks.f (rec : Rec) (k : Nat) (a0_0 : Int) (a0_1 : Sl) (a0_2 : Sl) (H : Hp) : An := spec_StartMasks.l0 rec k k (Sl.mk false H.length 0 0) 0 a0_0 a0_1 a0_2 (H ++ [some (Blk.mk false [])])
theorem spec_StartMasks.j3_eq (rec : Rec) (k : Nat) : ∀ x3 H, spec_StartMasks.j3 rec k x3 H = ex PP (orc spec_StartMasks.id) rec k (sub spec_StartMasks.body [1, 1, 1]) (St.of 41 [(3, .sl 1 x3)] []) H (kAt PP (orc spec_StartMasks.id) rec k spec_StartMasks.body [1, 1, 1] [] (K0 PP Go.Proofs.Try.f55)) := by
  intros x3 H
  unfold spec_StartMasks.j3
  kernel_rfl
theorem spec_StartMasks.j4_eq (rec : Rec) (k : Nat) (n0 : Nat) (L0 : Sl → Int → Int → Sl → Sl → Hp → An) (hL0 : ∀ x3 x4 y1_0 y1_1 y1_2 H, L0 x3 x4 y1_0 y1_1 y1_2 H = iter ((orc spec_StartMasks.id).at (lbody (sub spec_StartMasks.body [1, 1, 0, 1, 0]))) (ex PP (orc spec_StartMasks.id) rec k (lbody (sub spec_StartMasks.body [1, 1, 0, 1, 0]))) (kAt PP (orc spec_StartMasks.id) rec k spec_StartMasks.body [1, 1, 0, 1, 0] [] (K0 PP Go.Proofs.Try.f55)) n0 (St.of 41 [(1, .lp 1 0), (3, .sl 1 x3), (4, .int .i64 x4)] [(1, [.int .i64 y1_0, .sl 1 y1_1, .sl 3 y1_2])]) H) : ∀ x3 x4 y1_0 y1_1 y1_2 H, spec_StartMasks.j4 rec k L0 x3 x4 y1_0 y1_1 y1_2 H = ex PP (orc spec_StartMasks.id) rec k (sub spec_StartMasks.body [1, 1, 0, 1, 0, 0, 1, 1]) (St.of 41 [(1, .lp 1 0), (3, .sl 1 x3), (4, .int .i64 x4)] [(1, [.int .i64 y1_0, .sl 1 y1_1, .sl 3 y1_2])]) H (kAt PP (orc spec_StartMasks.id) rec k spec_StartMasks.body [1, 1, 0, 1, 0, 0, 1, 1] [n0] (K0 PP Go.Proofs.Try.f55)) := by
  intros x3 x4 y1_0 y1_1 y1_2 H
  unfold spec_StartMasks.j4
  try simp only [hL0, -eq_self]
  kernel_rfl
theorem spec_StartMasks.j2_eq (rec : Rec) (k : Nat) (n0 : Nat) (L0 : Sl → Int → Int → Sl → Sl → Hp → An) (hL0 : ∀ x3 x4 y1_0 y1_1 y1_2 H, L0 x3 x4 y1_0 y1_1 y1_2 H = iter ((orc spec_StartMasks.id).at (lbody (sub spec_StartMasks.body [1, 1, 0, 1, 0]))) (ex PP (orc spec_StartMasks.id) rec k (lbody (sub spec_StartMasks.body [1, 1, 0, 1, 0]))) (kAt PP (orc spec_StartMasks.id) rec k spec_StartMasks.body [1, 1, 0, 1, 0] [] (K0 PP Go.Proofs.Try.f55)) n0 (St.of 41 [(1, .lp 1 0), (3, .sl 1 x3), (4, .int .i64 x4)] [(1, [.int .i64 y1_0, .sl 1 y1_1, .sl 3 y1_2])]) H) : ∀ x3 x4 y1_0 y1_1 y1_2 H, spec_StartMasks.j2 rec k L0 x3 x4 y1_0 y1_1 y1_2 H = ex PP (orc spec_StartMasks.id) rec k (sub spec_StartMasks.body [1, 1, 0, 1, 0, 0, 1]) (St.of 41 [(1, .lp 1 0), (3, .sl 1 x3), (4, .int .i64 x4)] [(1, [.int .i64 y1_0, .sl 1 y1_1, .sl 3 y1_2])]) H (kAt PP (orc spec_StartMasks.id) rec k spec_StartMasks.body [1, 1, 0, 1, 0, 0, 1] [n0] (K0 PP Go.Proofs.Try.f55)) := by
  intros x3 x4 y1_0 y1_1 y1_2 H
  unfold spec_StartMasks.j2
  try simp only [hL0, spec_StartMasks.j4_eq rec k n0 L0 hL0, -eq_self]
  kernel_rfl
theorem spec_StartMasks.j1_eq (rec : Rec) (k : Nat) (n0 : Nat) (L0 : Sl → Int → Int → Sl → Sl → Hp → An) (hL0 : ∀ x3 x4 y1_0 y1_1 y1_2 H, L0 x3 x4 y1_0 y1_1 y1_2 H = iter ((orc spec_StartMasks.id).at (lbody (sub spec_StartMasks.body [1, 1, 0, 1, 0]))) (ex PP (orc spec_StartMasks.id) rec k (lbody (sub spec_StartMasks.body [1, 1, 0, 1, 0]))) (kAt PP (orc spec_StartMasks.id) rec k spec_StartMasks.body [1, 1, 0, 1, 0] [] (K0 PP Go.Proofs.Try.f55)) n0 (St.of 41 [(1, .lp 1 0), (3, .sl 1 x3), (4, .int .i64 x4)] [(1, [.int .i64 y1_0, .sl 1 y1_1, .sl 3 y1_2])]) H) : ∀ x3 x4 x14 y1_0 y1_1 y1_2 H, spec_StartMasks.j1 rec k L0 x3 x4 x14 y1_0 y1_1 y1_2 H = ex PP (orc spec_StartMasks.id) rec k (sub spec_StartMasks.body [1, 1, 0, 1, 0, 0, 0, 1]) (St.of 41 [(1, .lp 1 0), (3, .sl 1 x3), (4, .int .i64 x4), (14, .bool x14)] [(1, [.int .i64 y1_0, .sl 1 y1_1, .sl 3 y1_2])]) H (kAt PP (orc spec_StartMasks.id) rec k spec_StartMasks.body [1, 1, 0, 1, 0, 0, 0, 1] [n0] (K0 PP Go.Proofs.Try.f55)) := by
  intros x3 x4 x14 y1_0 y1_1 y1_2 H
  unfold spec_StartMasks.j1
  try simp only [hL0, spec_StartMasks.j2_eq rec k n0 L0 hL0, spec_StartMasks.j3_eq rec k, -eq_self]
  kernel_rfl
theorem spec_StartMasks.l0_eq (rec : Rec) (k : Nat) : ∀ n x3 x4 y1_0 y1_1 y1_2 H, spec_StartMasks.l0 rec k n x3 x4 y1_0 y1_1 y1_2 H = iter ((orc spec_StartMasks.id).at (lbody (sub spec_StartMasks.body [1, 1, 0, 1, 0]))) (ex PP (orc spec_StartMasks.id) rec k (lbody (sub spec_StartMasks.body [1, 1, 0, 1, 0]))) (kAt PP (orc spec_StartMasks.id) rec k spec_StartMasks.body [1, 1, 0, 1, 0] [] (K0 PP Go.Proofs.Try.f55)) n (St.of 41 [(1, .lp 1 0), (3, .sl 1 x3), (4, .int .i64 x4)] [(1, [.int .i64 y1_0, .sl 1 y1_1, .sl 3 y1_2])]) H := by
  intro n
  induction n with
  | zero => intros; rfl
  | succ n ih =>
    intros x3 x4 y1_0 y1_1 y1_2 H
    simp only [spec_StartMasks.l0, spec_StartMasks.j1_eq rec k n (spec_StartMasks.l0 rec k n) (fun x3 x4 y1_0 y1_1 y1_2 H => ih x3 x4 y1_0 y1_1 y1_2 H), ih, -eq_self]
    kernel_rfl
theorem spec_StartMasks.f_eq (rec : Rec) (k : Nat) : ∀ a0_0 a0_1 a0_2 H, spec_StartMasks.f rec k a0_0 a0_1 a0_2 H = ex PP (orc spec_StartMasks.id) rec k spec_StartMasks.body (St.of 41 [(0, .agg [.int .i64 a0_0, .sl 1 a0_1, .sl 3 a0_2])] []) H (K0 PP Go.Proofs.Try.f55) := by
  intros a0_0 a0_1 a0_2 H
  unfold spec_StartMasks.f
  try simp only [spec_StartMasks.l0_eq rec k, -eq_self]
  kernel_rfl
theorem spec_StartMasks.call (k : Nat) : ∀ a0_0 a0_1 a0_2 H, callF PP orc (k + 1) spec_StartMasks.id [.agg [.int .i64 a0_0, .sl 1 a0_1, .sl 3 a0_2]] H = spec_StartMasks.f (callF PP orc k) k a0_0 a0_1 a0_2 H := by
  intros a0_0 a0_1 a0_2 H
  rw [callF_at (fn := Go.Proofs.Try.f55) (c := spec_StartMasks.body) Go.Proofs.Try.func55 (by kernel_rfl) (Nat.le_of_ble_eq_true (by kernel_rfl)), spec_StartMasks.f_eq]
  kernel_rfl
noncomputable def spec_l6Copy.body : Code := (Go.Proofs.Try.f91).body.getD .skip
noncomputable def spec_l6Copy.f (rec : Rec) (k : Nat) (a0 : Sl) (H : Hp) : An := (H.read 1 a0).bind fun c2 => (H.appl 1 [] 0 a0.len c2).bind fun w1 => bif true && c2.all AV.cell then some (.sl 1 w1.1, w1.2) else none
theorem spec_l6Copy.f_eq (rec : Rec) (k : Nat) : ∀ a0 H, spec_l6Copy.f rec k a0 H = ex PP (orc spec_l6Copy.id) rec k spec_l6Copy.body (St.of 6 [(0, .sl 1 a0)] []) H (K0 PP Go.Proofs.Try.f91) := by
  intros a0 H
  unfold spec_l6Copy.f
  kernel_rfl
theorem spec_l6Copy.call (k : Nat) : ∀ a0 H, callF PP orc (k + 1) spec_l6Copy.id [.sl 1 a0] H = spec_l6Copy.f (callF PP orc k) k a0 H := by
  intros a0 H
  rw [callF_at (fn := Go.Proofs.Try.f91) (c := spec_l6Copy.body) Go.Proofs.Try.func91 (by kernel_rfl) (Nat.le_of_ble_eq_true (by kernel_rfl)), spec_l6Copy.f_eq]
  kernel_rfl
noncomputable def spec_NarrowSingles.body : Code := (Go.Proofs.Try.f38).body.getD .skip
noncomputable def spec_NarrowSingles.j1 (rec : Rec) (k : Nat) (L0 : Sl → Int → Sl → Int → Hp → An) (x0 : Sl) (x1 : Int) (x5 : Sl) (x6 : Int) (H : Hp) : An := L0 x0 x1 x5 (IntKind.i64.wrap (x6 + 1)) H
noncomputable def spec_NarrowSingles.j3 (rec : Rec) (k : Nat) (x5 : Sl) (H : Hp) : An := some (.sl 1 x5, H)
noncomputable def spec_NarrowSingles.j5 (rec : Rec) (k : Nat) (L0 : Sl → Int → Sl → Int → Hp → An) (L2 : Sl → Int → Sl → Int → Int → Hp → An) (x0 : Sl) (x1 : Int) (x5 : Sl) (x6 : Int) (x7 : Int) (H : Hp) : An := L2 x0 x1 x5 x6 (IntKind.i64.wrap (x7 + 1)) H
noncomputable def spec_NarrowSingles.j4 (rec : Rec) (k : Nat) (L0 : Sl → Int → Sl → Int → Hp → An) (L2 : Sl → Int → Sl → Int → Int → Hp → An) (x0 : Sl) (x1 : Int) (x5 : Sl) (x6 : Int) (x7 : Int) (x54 : Bool) (H : Hp) : An := bif x54 then bif decide (0 ≤ (x7 : Int)) && decide ((x7 : Int) < x5.len) then (ldI .i64 H x5.blk (x5.off + (x7 : Int).toNat * 1)).bind fun n8 => bif decide (0 ≤ (x6 : Int)) && decide ((x6 : Int) < x0.len) then (ldI .i64 H x0.blk (x0.off + (x6 : Int).toNat * 1)).bind fun n9 => bif decide (0 ≤ (x7 : Int)) && decide ((x7 : Int) < x5.len) then (H.sto x5.blk (x5.off + (x7 : Int).toNat * 1) [.int .i64 (IntKind.i64.wrap (((BitVec.ofInt IntKind.i64.bits n8 &&& ~~~ (BitVec.ofInt IntKind.i64.bits n9)).toNat : Int)))]).bind fun H10 => spec_NarrowSingles.j5 rec k L0 L2 x0 x1 x5 x6 x7 H10 else none else none else none else spec_NarrowSingles.j5 rec k L0 L2 x0 x1 x5 x6 x7 H
noncomputable def spec_NarrowSingles.l2 (rec : Rec) (k : Nat) (L0 : Sl → Int → Sl → Int → Hp → An) : Nat → Sl → Int → Sl → Int → Int → Hp → An
  | 0, _, _, _, _, _, _ => none
  | n + 1, x0, x1, x5, x6, x7, H => bif decide (x7 < (x0.len : Int)) then bif x7 != x6 then if (x1 : Int) = 0 then none else if (x1 : Int) = 0 then none else bif (IntKind.i64.wrap ((x7 : Int).tdiv x1)) == (IntKind.i64.wrap ((x6 : Int).tdiv x1)) then spec_NarrowSingles.j4 rec k L0 (spec_NarrowSingles.l2 rec k L0 n) x0 x1 x5 x6 x7 true H else if (x1 : Int) = 0 then none else if (x1 : Int) = 0 then none else spec_NarrowSingles.j4 rec k L0 (spec_NarrowSingles.l2 rec k L0 n) x0 x1 x5 x6 x7 (((x7 : Int).tmod x1) == ((x6 : Int).tmod x1)) H else spec_NarrowSingles.j4 rec k L0 (spec_NarrowSingles.l2 rec k L0 n) x0 x1 x5 x6 x7 false H else spec_NarrowSingles.j1 rec k L0 x0 x1 x5 x6 H
noncomputable def spec_NarrowSingles.l0 (rec : Rec) (k : Nat) : Nat → Sl → Int → Sl → Int → Hp → An
  | 0, _, _, _, _, _ => none
  | n + 1, x0, x1, x5, x6, H => bif decide (x6 < (x0.len : Int)) then bif decide (0 ≤ (x6 : Int)) && decide ((x6 : Int) < x0.len) then (ldI .i64 H x0.blk (x0.off + (x6 : Int).toNat * 1)).bind fun n5 => (rec spec_MaskValues.id [.int .i64 n5] H).bind fun r6 => (r6.1.toS 1).bind fun s7 => bif (s7.len : Int) != 1 then spec_NarrowSingles.j1 rec k (spec_NarrowSingles.l0 rec k n) x0 x1 x5 x6 r6.2 else spec_NarrowSingles.l2 rec k (spec_NarrowSingles.l0 rec k n) k x0 x1 x5 x6 0 r6.2 else none else spec_NarrowSingles.j3 rec k x5 H
noncomputable def spec_NarrowSingles.f (rec : Rec) (k : Nat) (a0 : Sl) (a1 : Int) (H : Hp) : An := (rec spec_MasksValid.id [.sl 1 a0, .int .i64 a1] H).bind fun r1 => r1.1.toB.bind fun b2 => bif !b2 then some (.sl 1 (Sl.mk false r1.2.length 0 0), r1.2 ++ [some (Blk.mk false [])]) else (rec spec_l6Copy.id [.sl 1 a0] r1.2).bind fun r3 => (r3.1.toS 1).bind fun s4 => spec_NarrowSingles.l0 rec k k a0 a1 s4 0 r3.2
theorem spec_NarrowSingles.j1_eq (rec : Rec) (k : Nat) (n0 : Nat) (L0 : Sl → Int → Sl → Int → Hp → An) (hL0 : ∀ x0 x1 x5 x6 H, L0 x0 x1 x5 x6 H = iter ((orc spec_NarrowSingles.id).at (lbody (sub spec_NarrowSingles.body [1, 1, 1, 0, 1, 0]))) (ex PP (orc spec_NarrowSingles.id) rec k (lbody (sub spec_NarrowSingles.body [1, 1, 1, 0, 1, 0]))) (kAt PP (orc spec_NarrowSingles.id) rec k spec_NarrowSingles.body [1, 1, 1, 0, 1, 0] [] (K0 PP Go.Proofs.Try.f38)) n0 (St.of 68 [(0, .sl 1 x0), (1, .int .i64 x1), (5, .sl 1 x5), (6, .int .i64 x6)] []) H) : ∀ x0 x1 x5 x6 H, spec_NarrowSingles.j1 rec k L0 x0 x1 x5 x6 H = ex PP (orc spec_NarrowSingles.id) rec k (sub spec_NarrowSingles.body [1, 1, 1, 0, 1, 0, 0, 1, 1]) (St.of 68 [(0, .sl 1 x0), (1, .int .i64 x1), (5, .sl 1 x5), (6, .int .i64 x6)] []) H (kAt PP (orc spec_NarrowSingles.id) rec k spec_NarrowSingles.body [1, 1, 1, 0, 1, 0, 0, 1, 1] [n0] (K0 PP Go.Proofs.Try.f38)) := by
  intros x0 x1 x5 x6 H
  simp only [spec_NarrowSingles.j1, hL0, -eq_self]
  kernel_rfl
theorem spec_NarrowSingles.j3_eq (rec : Rec) (k : Nat) : ∀ x5 H, spec_NarrowSingles.j3 rec k x5 H = ex PP (orc spec_NarrowSingles.id) rec k (sub spec_NarrowSingles.body [1, 1, 1, 1]) (St.of 68 [(5, .sl 1 x5)] []) H (kAt PP (orc spec_NarrowSingles.id) rec k spec_NarrowSingles.body [1, 1, 1, 1] [] (K0 PP Go.Proofs.Try.f38)) := by
  intros x5 H
  simp only [spec_NarrowSingles.j3, -eq_self]
  kernel_rfl
theorem spec_NarrowSingles.j5_eq (rec : Rec) (k : Nat) (n0 : Nat) (L0 : Sl → Int → Sl → Int → Hp → An) (hL0 : ∀ x0 x1 x5 x6 H, L0 x0 x1 x5 x6 H = iter ((orc spec_NarrowSingles.id).at (lbody (sub spec_NarrowSingles.body [1, 1, 1, 0, 1, 0]))) (ex PP (orc spec_NarrowSingles.id) rec k (lbody (sub spec_NarrowSingles.body [1, 1, 1, 0, 1, 0]))) (kAt PP (orc spec_NarrowSingles.id) rec k spec_NarrowSingles.body [1, 1, 1, 0, 1, 0] [] (K0 PP Go.Proofs.Try.f38)) n0 (St.of 68 [(0, .sl 1 x0), (1, .int .i64 x1), (5, .sl 1 x5), (6, .int .i64 x6)] []) H) (n2 : Nat) (L2 : Sl → Int → Sl → Int → Int → Hp → An) (hL2 : ∀ x0 x1 x5 x6 x7 H, L2 x0 x1 x5 x6 x7 H = iter ((orc spec_NarrowSingles.id).at (lbody (sub spec_NarrowSingles.body [1, 1, 1, 0, 1, 0, 0, 1, 0, 0, 1, 1, 0]))) (ex PP (orc spec_NarrowSingles.id) rec k (lbody (sub spec_NarrowSingles.body [1, 1, 1, 0, 1, 0, 0, 1, 0, 0, 1, 1, 0]))) (kAt PP (orc spec_NarrowSingles.id) rec k spec_NarrowSingles.body [1, 1, 1, 0, 1, 0, 0, 1, 0, 0, 1, 1, 0] [n0] (K0 PP Go.Proofs.Try.f38)) n2 (St.of 68 [(0, .sl 1 x0), (1, .int .i64 x1), (5, .sl 1 x5), (6, .int .i64 x6), (7, .int .i64 x7)] []) H) : ∀ x0 x1 x5 x6 x7 H, spec_NarrowSingles.j5 rec k L0 L2 x0 x1 x5 x6 x7 H = ex PP (orc spec_NarrowSingles.id) rec k (sub spec_NarrowSingles.body [1, 1, 1, 0, 1, 0, 0, 1, 0, 0, 1, 1, 0, 0, 1, 1]) (St.of 68 [(0, .sl 1 x0), (1, .int .i64 x1), (5, .sl 1 x5), (6, .int .i64 x6), (7, .int .i64 x7)] []) H (kAt PP (orc spec_NarrowSingles.id) rec k spec_NarrowSingles.body [1, 1, 1, 0, 1, 0, 0, 1, 0, 0, 1, 1, 0, 0, 1, 1] [n0, n2] (K0 PP Go.Proofs.Try.f38)) := by
  intros x0 x1 x5 x6 x7 H
  simp only [spec_NarrowSingles.j5, hL0, hL2, -eq_self]
  kernel_rfl
theorem spec_NarrowSingles.j4_eq (rec : Rec) (k : Nat) (n0 : Nat) (L0 : Sl → Int → Sl → Int → Hp → An) (hL0 : ∀ x0 x1 x5 x6 H, L0 x0 x1 x5 x6 H = iter ((orc spec_NarrowSingles.id).at (lbody (sub spec_NarrowSingles.body [1, 1, 1, 0, 1, 0]))) (ex PP (orc spec_NarrowSingles.id) rec k (lbody (sub spec_NarrowSingles.body [1, 1, 1, 0, 1, 0]))) (kAt PP (orc spec_NarrowSingles.id) rec k spec_NarrowSingles.body [1, 1, 1, 0, 1, 0] [] (K0 PP Go.Proofs.Try.f38)) n0 (St.of 68 [(0, .sl 1 x0), (1, .int .i64 x1), (5, .sl 1 x5), (6, .int .i64 x6)] []) H) (n2 : Nat) (L2 : Sl → Int → Sl → Int → Int → Hp → An) (hL2 : ∀ x0 x1 x5 x6 x7 H, L2 x0 x1 x5 x6 x7 H = iter ((orc spec_NarrowSingles.id).at (lbody (sub spec_NarrowSingles.body [1, 1, 1, 0, 1, 0, 0, 1, 0, 0, 1, 1, 0]))) (ex PP (orc spec_NarrowSingles.id) rec k (lbody (sub spec_NarrowSingles.body [1, 1, 1, 0, 1, 0, 0, 1, 0, 0, 1, 1, 0]))) (kAt PP (orc spec_NarrowSingles.id) rec k spec_NarrowSingles.body [1, 1, 1, 0, 1, 0, 0, 1, 0, 0, 1, 1, 0] [n0] (K0 PP Go.Proofs.Try.f38)) n2 (St.of 68 [(0, .sl 1 x0), (1, .int .i64 x1), (5, .sl 1 x5), (6, .int .i64 x6), (7, .int .i64 x7)] []) H) : ∀ x0 x1 x5 x6 x7 x54 H, spec_NarrowSingles.j4 rec k L0 L2 x0 x1 x5 x6 x7 x54 H = ex PP (orc spec_NarrowSingles.id) rec k (sub spec_NarrowSingles.body [1, 1, 1, 0, 1, 0, 0, 1, 0, 0, 1, 1, 0, 0, 1, 0, 0, 1]) (St.of 68 [(0, .sl 1 x0), (1, .int .i64 x1), (5, .sl 1 x5), (6, .int .i64 x6), (7, .int .i64 x7), (54, .bool x54)] []) H (kAt PP (orc spec_NarrowSingles.id) rec k spec_NarrowSingles.body [1, 1, 1, 0, 1, 0, 0, 1, 0, 0, 1, 1, 0, 0, 1, 0, 0, 1] [n0, n2] (K0 PP Go.Proofs.Try.f38)) := by
  intros x0 x1 x5 x6 x7 x54 H
  simp only [spec_NarrowSingles.j4, spec_NarrowSingles.j5, hL0, hL2, -eq_self]
  kernel_rfl
theorem spec_NarrowSingles.l2_eq (rec : Rec) (k : Nat) (n0 : Nat) (L0 : Sl → Int → Sl → Int → Hp → An) (hL0 : ∀ x0 x1 x5 x6 H, L0 x0 x1 x5 x6 H = iter ((orc spec_NarrowSingles.id).at (lbody (sub spec_NarrowSingles.body [1, 1, 1, 0, 1, 0]))) (ex PP (orc spec_NarrowSingles.id) rec k (lbody (sub spec_NarrowSingles.body [1, 1, 1, 0, 1, 0]))) (kAt PP (orc spec_NarrowSingles.id) rec k spec_NarrowSingles.body [1, 1, 1, 0, 1, 0] [] (K0 PP Go.Proofs.Try.f38)) n0 (St.of 68 [(0, .sl 1 x0), (1, .int .i64 x1), (5, .sl 1 x5), (6, .int .i64 x6)] []) H) : ∀ n x0 x1 x5 x6 x7 H, spec_NarrowSingles.l2 rec k L0 n x0 x1 x5 x6 x7 H = iter ((orc spec_NarrowSingles.id).at (lbody (sub spec_NarrowSingles.body [1, 1, 1, 0, 1, 0, 0, 1, 0, 0, 1, 1, 0]))) (ex PP (orc spec_NarrowSingles.id) rec k (lbody (sub spec_NarrowSingles.body [1, 1, 1, 0, 1, 0, 0, 1, 0, 0, 1, 1, 0]))) (kAt PP (orc spec_NarrowSingles.id) rec k spec_NarrowSingles.body [1, 1, 1, 0, 1, 0, 0, 1, 0, 0, 1, 1, 0] [n0] (K0 PP Go.Proofs.Try.f38)) n (St.of 68 [(0, .sl 1 x0), (1, .int .i64 x1), (5, .sl 1 x5), (6, .int .i64 x6), (7, .int .i64 x7)] []) H := by
  intro n
  induction n with
  | zero => intros; rfl
  | succ n ih =>
    intros x0 x1 x5 x6 x7 H
    simp only [spec_NarrowSingles.l2, spec_NarrowSingles.j4, spec_NarrowSingles.j1, spec_NarrowSingles.j5, hL0, ih, -eq_self]
    kernel_rfl
theorem spec_NarrowSingles.l0_eq (rec : Rec) (k : Nat) : ∀ n x0 x1 x5 x6 H, spec_NarrowSingles.l0 rec k n x0 x1 x5 x6 H = iter ((orc spec_NarrowSingles.id).at (lbody (sub spec_NarrowSingles.body [1, 1, 1, 0, 1, 0]))) (ex PP (orc spec_NarrowSingles.id) rec k (lbody (sub spec_NarrowSingles.body [1, 1, 1, 0, 1, 0]))) (kAt PP (orc spec_NarrowSingles.id) rec k spec_NarrowSingles.body [1, 1, 1, 0, 1, 0] [] (K0 PP Go.Proofs.Try.f38)) n (St.of 68 [(0, .sl 1 x0), (1, .int .i64 x1), (5, .sl 1 x5), (6, .int .i64 x6)] []) H := by
  intro n
  induction n with
  | zero => intros; rfl
  | succ n ih =>
    intros x0 x1 x5 x6 H
    simp only [spec_NarrowSingles.l0, spec_NarrowSingles.j1, spec_NarrowSingles.j3, spec_NarrowSingles.l2_eq rec k n (spec_NarrowSingles.l0 rec k n) (fun x0 x1 x5 x6 H => ih x0 x1 x5 x6 H), ih, -eq_self]
    kernel_rfl
theorem spec_NarrowSingles.f_eq (rec : Rec) (k : Nat) : ∀ a0 a1 H, spec_NarrowSingles.f rec k a0 a1 H = ex PP (orc spec_NarrowSingles.id) rec k spec_NarrowSingles.body (St.of 68 [(0, .sl 1 a0), (1, .int .i64 a1)] []) H (K0 PP Go.Proofs.Try.f38) := by
  intros a0 a1 H
  simp only [spec_NarrowSingles.f, spec_NarrowSingles.l0_eq rec k, -eq_self]
  kernel_rfl
theorem spec_NarrowSingles.call (k : Nat) : ∀ a0 a1 H, callF PP orc (k + 1) spec_NarrowSingles.id [.sl 1 a0, .int .i64 a1] H = spec_NarrowSingles.f (callF PP orc k) k a0 a1 H := by
  intros a0 a1 H
  rw [callF_at (fn := Go.Proofs.Try.f38) (c := spec_NarrowSingles.body) Go.Proofs.Try.func38 (by kernel_rfl) (Nat.le_of_ble_eq_true (by kernel_rfl)), spec_NarrowSingles.f_eq]
  kernel_rfl
noncomputable def spec_NarrowHidden.body : Code := (Go.Proofs.Try.f49).body.getD .skip
noncomputable def spec_NarrowHidden.j2 (rec : Rec) (k : Nat) (x5 : Sl) (H : Hp) : An := some (.sl 1 x5, H)
noncomputable def spec_NarrowHidden.j4 (rec : Rec) (k : Nat) (L0 : Sl → Int → Sl → Int → Hp → An) (x0 : Sl) (x1 : Int) (x5 : Sl) (x6 : Int) (H : Hp) : An := L0 x0 x1 x5 (IntKind.i64.wrap (x6 + 1)) H
noncomputable def spec_NarrowHidden.j5 (rec : Rec) (k : Nat) (L0 : Sl → Int → Sl → Int → Hp → An) (L1 : Sl → Int → Sl → Int → Sl → Int → Hp → An) (L3 : Sl → Int → Sl → Int → Sl → Int → Int → Int → Int → Hp → An) (x0 : Sl) (x1 : Int) (x5 : Sl) (x6 : Int) (x7 : Sl) (x8 : Int) (x9 : Int) (x10 : Int) (x11 : Int) (H : Hp) : An := L3 x0 x1 x5 x6 x7 x8 x9 x10 (IntKind.i64.wrap (x11 + 1)) H
noncomputable def spec_NarrowHidden.j7 (rec : Rec) (k : Nat) (L0 : Sl → Int → Sl → Int → Hp → An) (L1 : Sl → Int → Sl → Int → Sl → Int → Hp → An) (x0 : Sl) (x1 : Int) (x5 : Sl) (x6 : Int) (x7 : Sl) (x8 : Int) (H : Hp) : An := L1 x0 x1 x5 x6 x7 (IntKind.i64.wrap (x8 + 1)) H
noncomputable def spec_NarrowHidden.j6 (rec : Rec) (k : Nat) (L0 : Sl → Int → Sl → Int → Hp → An) (L1 : Sl → Int → Sl → Int → Sl → Int → Hp → An) (x0 : Sl) (x1 : Int) (x5 : Sl) (x6 : Int) (x7 : Sl) (x8 : Int) (x9 : Int) (x10 : Int) (H : Hp) : An := bif x9 == 1 then bif decide (0 ≤ (x10 : Int)) && decide ((x10 : Int) < x5.len) then (ldI .i64 H x5.blk (x5.off + (x10 : Int).toNat * 1)).bind fun n10 => if (x8 : Int) < 0 then none else bif decide (0 ≤ (x10 : Int)) && decide ((x10 : Int) < x5.len) then (H.sto x5.blk (x5.off + (x10 : Int).toNat * 1) [.int .i64 (IntKind.i64.wrap (((BitVec.ofInt IntKind.i64.bits n10 &&& BitVec.ofInt IntKind.i64.bits (IntKind.i64.wrap (1 * 2 ^ (min (x8 : Int).toNat IntKind.i64.bits)))).toNat : Int)))]).bind fun H11 => spec_NarrowHidden.j7 rec k L0 L1 x0 x1 x5 x6 x7 x8 H11 else none else none else spec_NarrowHidden.j7 rec k L0 L1 x0 x1 x5 x6 x7 x8 H
noncomputable def spec_NarrowHidden.l3 (rec : Rec) (k : Nat) (L0 : Sl → Int → Sl → Int → Hp → An) (L1 : Sl → Int → Sl → Int → Sl → Int → Hp → An) : Nat → Sl → Int → Sl → Int → Sl → Int → Int → Int → Int → Hp → An
  | 0, _, _, _, _, _, _, _, _, _, _ => none
  | n + 1, x0, x1, x5, x6, x7, x8, x9, x10, x11, H => bif decide (x11 < (x7.len : Int)) then bif decide (0 ≤ (x11 : Int)) && decide ((x11 : Int) < x7.len) then (ldI .i64 H x7.blk (x7.off + (x11 : Int).toNat * 1)).bind fun n7 => bif decide (0 ≤ (n7 : Int)) && decide ((n7 : Int) < x0.len) then (ldI .i64 H x0.blk (x0.off + (n7 : Int).toNat * 1)).bind fun n8 => if (x8 : Int) < 0 then none else bif (((n8 : Int).fdiv (2 ^ (min (x8 : Int).toNat IntKind.i64.bits)) : Int).tmod 2) == 1 then bif decide (0 ≤ (x11 : Int)) && decide ((x11 : Int) < x7.len) then (ldI .i64 H x7.blk (x7.off + (x11 : Int).toNat * 1)).bind fun n9 => spec_NarrowHidden.j5 rec k L0 L1 (spec_NarrowHidden.l3 rec k L0 L1 n) x0 x1 x5 x6 x7 x8 (IntKind.i64.wrap (x9 + 1)) n9 x11 H else none else spec_NarrowHidden.j5 rec k L0 L1 (spec_NarrowHidden.l3 rec k L0 L1 n) x0 x1 x5 x6 x7 x8 x9 x10 x11 H else none else none else spec_NarrowHidden.j6 rec k L0 L1 x0 x1 x5 x6 x7 x8 x9 x10 H
noncomputable def spec_NarrowHidden.l1 (rec : Rec) (k : Nat) (L0 : Sl → Int → Sl → Int → Hp → An) : Nat → Sl → Int → Sl → Int → Sl → Int → Hp → An
  | 0, _, _, _, _, _, _, _ => none
  | n + 1, x0, x1, x5, x6, x7, x8, H => bif decide (x8 ≤ x1) then spec_NarrowHidden.l3 rec k L0 (spec_NarrowHidden.l1 rec k L0 n) k x0 x1 x5 x6 x7 x8 0 0 0 H else spec_NarrowHidden.j4 rec k L0 x0 x1 x5 x6 H
noncomputable def spec_NarrowHidden.l0 (rec : Rec) (k : Nat) : Nat → Sl → Int → Sl → Int → Hp → An
  | 0, _, _, _, _, _ => none
  | n + 1, x0, x1, x5, x6, H => bif decide (x6 < (IntKind.i64.wrap (2 * x1))) then (rec spec_LineCells.id [.int .i64 x1, .int .i64 x6] H).bind fun r5 => (r5.1.toS 1).bind fun s6 => spec_NarrowHidden.l1 rec k (spec_NarrowHidden.l0 rec k n) k x0 x1 x5 x6 s6 1 r5.2 else spec_NarrowHidden.j2 rec k x5 H
noncomputable def spec_NarrowHidden.f (rec : Rec) (k : Nat) (a0 : Sl) (a1 : Int) (H : Hp) : An := (rec spec_MasksValid.id [.sl 1 a0, .int .i64 a1] H).bind fun r1 => r1.1.toB.bind fun b2 => bif !b2 then some (.sl 1 (Sl.mk false r1.2.length 0 0), r1.2 ++ [some (Blk.mk false [])]) else (rec spec_l6Copy.id [.sl 1 a0] r1.2).bind fun r3 => (r3.1.toS 1).bind fun s4 => spec_NarrowHidden.l0 rec k k a0 a1 s4 0 r3.2
theorem spec_NarrowHidden.j2_eq (rec : Rec) (k : Nat) : ∀ x5 H, spec_NarrowHidden.j2 rec k x5 H = ex PP (orc spec_NarrowHidden.id) rec k (sub spec_NarrowHidden.body [1, 1, 1, 1]) (St.of 69 [(5, .sl 1 x5)] []) H (kAt PP (orc spec_NarrowHidden.id) rec k spec_NarrowHidden.body [1, 1, 1, 1] [] (K0 PP Go.Proofs.Try.f49)) := by
  intros x5 H
  unfold spec_NarrowHidden.j2
  kernel_rfl
theorem spec_NarrowHidden.j4_eq (rec : Rec) (k : Nat) (n0 : Nat) (L0 : Sl → Int → Sl → Int → Hp → An) (hL0 : ∀ x0 x1 x5 x6 H, L0 x0 x1 x5 x6 H = iter ((orc spec_NarrowHidden.id).at (lbody (sub spec_NarrowHidden.body [1, 1, 1, 0, 1, 0]))) (ex PP (orc spec_NarrowHidden.id) rec k (lbody (sub spec_NarrowHidden.body [1, 1, 1, 0, 1, 0]))) (kAt PP (orc spec_NarrowHidden.id) rec k spec_NarrowHidden.body [1, 1, 1, 0, 1, 0] [] (K0 PP Go.Proofs.Try.f49)) n0 (St.of 69 [(0, .sl 1 x0), (1, .int .i64 x1), (5, .sl 1 x5), (6, .int .i64 x6)] []) H) : ∀ x0 x1 x5 x6 H, spec_NarrowHidden.j4 rec k L0 x0 x1 x5 x6 H = ex PP (orc spec_NarrowHidden.id) rec k (sub spec_NarrowHidden.body [1, 1, 1, 0, 1, 0, 0, 1, 1]) (St.of 69 [(0, .sl 1 x0), (1, .int .i64 x1), (5, .sl 1 x5), (6, .int .i64 x6)] []) H (kAt PP (orc spec_NarrowHidden.id) rec k spec_NarrowHidden.body [1, 1, 1, 0, 1, 0, 0, 1, 1] [n0] (K0 PP Go.Proofs.Try.f49)) := by
  intros x0 x1 x5 x6 H
  unfold spec_NarrowHidden.j4
  try simp only [hL0, -eq_self]
  kernel_rfl
theorem spec_NarrowHidden.j5_eq (rec : Rec) (k : Nat) (n0 : Nat) (L0 : Sl → Int → Sl → Int → Hp → An) (hL0 : ∀ x0 x1 x5 x6 H, L0 x0 x1 x5 x6 H = iter ((orc spec_NarrowHidden.id).at (lbody (sub spec_NarrowHidden.body [1, 1, 1, 0, 1, 0]))) (ex PP (orc spec_NarrowHidden.id) rec k (lbody (sub spec_NarrowHidden.body [1, 1, 1, 0, 1, 0]))) (kAt PP (orc spec_NarrowHidden.id) rec k spec_NarrowHidden.body [1, 1, 1, 0, 1, 0] [] (K0 PP Go.Proofs.Try.f49)) n0 (St.of 69 [(0, .sl 1 x0), (1, .int .i64 x1), (5, .sl 1 x5), (6, .int .i64 x6)] []) H) (n1 : Nat) (L1 : Sl → Int → Sl → Int → Sl → Int → Hp → An) (hL1 : ∀ x0 x1 x5 x6 x7 x8 H, L1 x0 x1 x5 x6 x7 x8 H = iter ((orc spec_NarrowHidden.id).at (lbody (sub spec_NarrowHidden.body [1, 1, 1, 0, 1, 0, 0, 1, 0, 0, 1, 1, 0]))) (ex PP (orc spec_NarrowHidden.id) rec k (lbody (sub spec_NarrowHidden.body [1, 1, 1, 0, 1, 0, 0, 1, 0, 0, 1, 1, 0]))) (kAt PP (orc spec_NarrowHidden.id) rec k spec_NarrowHidden.body [1, 1, 1, 0, 1, 0, 0, 1, 0, 0, 1, 1, 0] [n0] (K0 PP Go.Proofs.Try.f49)) n1 (St.of 69 [(0, .sl 1 x0), (1, .int .i64 x1), (5, .sl 1 x5), (6, .int .i64 x6), (7, .sl 1 x7), (8, .int .i64 x8)] []) H) (n3 : Nat) (L3 : Sl → Int → Sl → Int → Sl → Int → Int → Int → Int → Hp → An) (hL3 : ∀ x0 x1 x5 x6 x7 x8 x9 x10 x11 H, L3 x0 x1 x5 x6 x7 x8 x9 x10 x11 H = iter ((orc spec_NarrowHidden.id).at (lbody (sub spec_NarrowHidden.body [1, 1, 1, 0, 1, 0, 0, 1, 0, 0, 1, 1, 0, 0, 1, 0, 0, 1, 1, 0, 1, 0]))) (ex PP (orc spec_NarrowHidden.id) rec k (lbody (sub spec_NarrowHidden.body [1, 1, 1, 0, 1, 0, 0, 1, 0, 0, 1, 1, 0, 0, 1, 0, 0, 1, 1, 0, 1, 0]))) (kAt PP (orc spec_NarrowHidden.id) rec k spec_NarrowHidden.body [1, 1, 1, 0, 1, 0, 0, 1, 0, 0, 1, 1, 0, 0, 1, 0, 0, 1, 1, 0, 1, 0] [n0, n1] (K0 PP Go.Proofs.Try.f49)) n3 (St.of 69 [(0, .sl 1 x0), (1, .int .i64 x1), (5, .sl 1 x5), (6, .int .i64 x6), (7, .sl 1 x7), (8, .int .i64 x8), (9, .int .i64 x9), (10, .int .i64 x10), (11, .int .i64 x11)] []) H) : ∀ x0 x1 x5 x6 x7 x8 x9 x10 x11 H, spec_NarrowHidden.j5 rec k L0 L1 L3 x0 x1 x5 x6 x7 x8 x9 x10 x11 H = ex PP (orc spec_NarrowHidden.id) rec k (sub spec_NarrowHidden.body [1, 1, 1, 0, 1, 0, 0, 1, 0, 0, 1, 1, 0, 0, 1, 0, 0, 1, 1, 0, 1, 0, 0, 1, 1]) (St.of 69 [(0, .sl 1 x0), (1, .int .i64 x1), (5, .sl 1 x5), (6, .int .i64 x6), (7, .sl 1 x7), (8, .int .i64 x8), (9, .int .i64 x9), (10, .int .i64 x10), (11, .int .i64 x11)] []) H (kAt PP (orc spec_NarrowHidden.id) rec k spec_NarrowHidden.body [1, 1, 1, 0, 1, 0, 0, 1, 0, 0, 1, 1, 0, 0, 1, 0, 0, 1, 1, 0, 1, 0, 0, 1, 1] [n0, n1, n3] (K0 PP Go.Proofs.Try.f49)) := by
  intros x0 x1 x5 x6 x7 x8 x9 x10 x11 H
  unfold spec_NarrowHidden.j5
  try simp only [hL0, hL1, hL3, -eq_self]
  kernel_rfl
theorem spec_NarrowHidden.j7_eq (rec : Rec) (k : Nat) (n0 : Nat) (L0 : Sl → Int → Sl → Int → Hp → An) (hL0 : ∀ x0 x1 x5 x6 H, L0 x0 x1 x5 x6 H = iter ((orc spec_NarrowHidden.id).at (lbody (sub spec_NarrowHidden.body [1, 1, 1, 0, 1, 0]))) (ex PP (orc spec_NarrowHidden.id) rec k (lbody (sub spec_NarrowHidden.body [1, 1, 1, 0, 1, 0]))) (kAt PP (orc spec_NarrowHidden.id) rec k spec_NarrowHidden.body [1, 1, 1, 0, 1, 0] [] (K0 PP Go.Proofs.Try.f49)) n0 (St.of 69 [(0, .sl 1 x0), (1, .int .i64 x1), (5, .sl 1 x5), (6, .int .i64 x6)] []) H) (n1 : Nat) (L1 : Sl → Int → Sl → Int → Sl → Int → Hp → An) (hL1 : ∀ x0 x1 x5 x6 x7 x8 H, L1 x0 x1 x5 x6 x7 x8 H = iter ((orc spec_NarrowHidden.id).at (lbody (sub spec_NarrowHidden.body [1, 1, 1, 0, 1, 0, 0, 1, 0, 0, 1, 1, 0]))) (ex PP (orc spec_NarrowHidden.id) rec k (lbody (sub spec_NarrowHidden.body [1, 1, 1, 0, 1, 0, 0, 1, 0, 0, 1, 1, 0]))) (kAt PP (orc spec_NarrowHidden.id) rec k spec_NarrowHidden.body [1, 1, 1, 0, 1, 0, 0, 1, 0, 0, 1, 1, 0] [n0] (K0 PP Go.Proofs.Try.f49)) n1 (St.of 69 [(0, .sl 1 x0), (1, .int .i64 x1), (5, .sl 1 x5), (6, .int .i64 x6), (7, .sl 1 x7), (8, .int .i64 x8)] []) H) : ∀ x0 x1 x5 x6 x7 x8 H, spec_NarrowHidden.j7 rec k L0 L1 x0 x1 x5 x6 x7 x8 H = ex PP (orc spec_NarrowHidden.id) rec k (sub spec_NarrowHidden.body [1, 1, 1, 0, 1, 0, 0, 1, 0, 0, 1, 1, 0, 0, 1, 1]) (St.of 69 [(0, .sl 1 x0), (1, .int .i64 x1), (5, .sl 1 x5), (6, .int .i64 x6), (7, .sl 1 x7), (8, .int .i64 x8)] []) H (kAt PP (orc spec_NarrowHidden.id) rec k spec_NarrowHidden.body [1, 1, 1, 0, 1, 0, 0, 1, 0, 0, 1, 1, 0, 0, 1, 1] [n0, n1] (K0 PP Go.Proofs.Try.f49)) := by
  intros x0 x1 x5 x6 x7 x8 H
  unfold spec_NarrowHidden.j7
  try simp only [hL0, hL1, -eq_self]
  kernel_rfl
theorem spec_NarrowHidden.j6_eq (rec : Rec) (k : Nat) (n0 : Nat) (L0 : Sl → Int → Sl → Int → Hp → An) (hL0 : ∀ x0 x1 x5 x6 H, L0 x0 x1 x5 x6 H = iter ((orc spec_NarrowHidden.id).at (lbody (sub spec_NarrowHidden.body [1, 1, 1, 0, 1, 0]))) (ex PP (orc spec_NarrowHidden.id) rec k (lbody (sub spec_NarrowHidden.body [1, 1, 1, 0, 1, 0]))) (kAt PP (orc spec_NarrowHidden.id) rec k spec_NarrowHidden.body [1, 1, 1, 0, 1, 0] [] (K0 PP Go.Proofs.Try.f49)) n0 (St.of 69 [(0, .sl 1 x0), (1, .int .i64 x1), (5, .sl 1 x5), (6, .int .i64 x6)] []) H) (n1 : Nat) (L1 : Sl → Int → Sl → Int → Sl → Int → Hp → An) (hL1 : ∀ x0 x1 x5 x6 x7 x8 H, L1 x0 x1 x5 x6 x7 x8 H = iter ((orc spec_NarrowHidden.id).at (lbody (sub spec_NarrowHidden.body [1, 1, 1, 0, 1, 0, 0, 1, 0, 0, 1, 1, 0]))) (ex PP (orc spec_NarrowHidden.id) rec k (lbody (sub spec_NarrowHidden.body [1, 1, 1, 0, 1, 0, 0, 1, 0, 0, 1, 1, 0]))) (kAt PP (orc spec_NarrowHidden.id) rec k spec_NarrowHidden.body [1, 1, 1, 0, 1, 0, 0, 1, 0, 0, 1, 1, 0] [n0] (K0 PP Go.Proofs.Try.f49)) n1 (St.of 69 [(0, .sl 1 x0), (1, .int .i64 x1), (5, .sl 1 x5), (6, .int .i64 x6), (7, .sl 1 x7), (8, .int .i64 x8)] []) H) : ∀ x0 x1 x5 x6 x7 x8 x9 x10 H, spec_NarrowHidden.j6 rec k L0 L1 x0 x1 x5 x6 x7 x8 x9 x10 H = ex PP (orc spec_NarrowHidden.id) rec k (sub spec_NarrowHidden.body [1, 1, 1, 0, 1, 0, 0, 1, 0, 0, 1, 1, 0, 0, 1, 0, 0, 1, 1, 1]) (St.of 69 [(0, .sl 1 x0), (1, .int .i64 x1), (5, .sl 1 x5), (6, .int .i64 x6), (7, .sl 1 x7), (8, .int .i64 x8), (9, .int .i64 x9), (10, .int .i64 x10)] []) H (kAt PP (orc spec_NarrowHidden.id) rec k spec_NarrowHidden.body [1, 1, 1, 0, 1, 0, 0, 1, 0, 0, 1, 1, 0, 0, 1, 0, 0, 1, 1, 1] [n0, n1] (K0 PP Go.Proofs.Try.f49)) := by
  intros x0 x1 x5 x6 x7 x8 x9 x10 H
  unfold spec_NarrowHidden.j6
  try simp only [hL0, hL1, spec_NarrowHidden.j7_eq rec k n0 L0 hL0 n1 L1 hL1, -eq_self]
  kernel_rfl
theorem spec_NarrowHidden.l3_eq (rec : Rec) (k : Nat) (n0 : Nat) (L0 : Sl → Int → Sl → Int → Hp → An) (hL0 : ∀ x0 x1 x5 x6 H, L0 x0 x1 x5 x6 H = iter ((orc spec_NarrowHidden.id).at (lbody (sub spec_NarrowHidden.body [1, 1, 1, 0, 1, 0]))) (ex PP (orc spec_NarrowHidden.id) rec k (lbody (sub spec_NarrowHidden.body [1, 1, 1, 0, 1, 0]))) (kAt PP (orc spec_NarrowHidden.id) rec k spec_NarrowHidden.body [1, 1, 1, 0, 1, 0] [] (K0 PP Go.Proofs.Try.f49)) n0 (St.of 69 [(0, .sl 1 x0), (1, .int .i64 x1), (5, .sl 1 x5), (6, .int .i64 x6)] []) H) (n1 : Nat) (L1 : Sl → Int → Sl → Int → Sl → Int → Hp → An) (hL1 : ∀ x0 x1 x5 x6 x7 x8 H, L1 x0 x1 x5 x6 x7 x8 H = iter ((orc spec_NarrowHidden.id).at (lbody (sub spec_NarrowHidden.body [1, 1, 1, 0, 1, 0, 0, 1, 0, 0, 1, 1, 0]))) (ex PP (orc spec_NarrowHidden.id) rec k (lbody (sub spec_NarrowHidden.body [1, 1, 1, 0, 1, 0, 0, 1, 0, 0, 1, 1, 0]))) (kAt PP (orc spec_NarrowHidden.id) rec k spec_NarrowHidden.body [1, 1, 1, 0, 1, 0, 0, 1, 0, 0, 1, 1, 0] [n0] (K0 PP Go.Proofs.Try.f49)) n1 (St.of 69 [(0, .sl 1 x0), (1, .int .i64 x1), (5, .sl 1 x5), (6, .int .i64 x6), (7, .sl 1 x7), (8, .int .i64 x8)] []) H) : ∀ n x0 x1 x5 x6 x7 x8 x9 x10 x11 H, spec_NarrowHidden.l3 rec k L0 L1 n x0 x1 x5 x6 x7 x8 x9 x10 x11 H = iter ((orc spec_NarrowHidden.id).at (lbody (sub spec_NarrowHidden.body [1, 1, 1, 0, 1, 0, 0, 1, 0, 0, 1, 1, 0, 0, 1, 0, 0, 1, 1, 0, 1, 0]))) (ex PP (orc spec_NarrowHidden.id) rec k (lbody (sub spec_NarrowHidden.body [1, 1, 1, 0, 1, 0, 0, 1, 0, 0, 1, 1, 0, 0, 1, 0, 0, 1, 1, 0, 1, 0]))) (kAt PP (orc spec_NarrowHidden.id) rec k spec_NarrowHidden.body [1, 1, 1, 0, 1, 0, 0, 1, 0, 0, 1, 1, 0, 0, 1, 0, 0, 1, 1, 0, 1, 0] [n0, n1] (K0 PP Go.Proofs.Try.f49)) n (St.of 69 [(0, .sl 1 x0), (1, .int .i64 x1), (5, .sl 1 x5), (6, .int .i64 x6), (7, .sl 1 x7), (8, .int .i64 x8), (9, .int .i64 x9), (10, .int .i64 x10), (11, .int .i64 x11)] []) H := by
  intro n
  induction n with
  | zero => intros; rfl
  | succ n ih =>
    intros x0 x1 x5 x6 x7 x8 x9 x10 x11 H
    simp only [spec_NarrowHidden.l3, hL0, hL1, spec_NarrowHidden.j5_eq rec k n0 L0 hL0 n1 L1 hL1 n (spec_NarrowHidden.l3 rec k L0 L1 n) (fun x0 x1 x5 x6 x7 x8 x9 x10 x11 H => ih x0 x1 x5 x6 x7 x8 x9 x10 x11 H), spec_NarrowHidden.j6_eq rec k n0 L0 hL0 n1 L1 hL1, ih, -eq_self]
    kernel_rfl
theorem spec_NarrowHidden.l1_eq (rec : Rec) (k : Nat) (n0 : Nat) (L0 : Sl → Int → Sl → Int → Hp → An) (hL0 : ∀ x0 x1 x5 x6 H, L0 x0 x1 x5 x6 H = iter ((orc spec_NarrowHidden.id).at (lbody (sub spec_NarrowHidden.body [1, 1, 1, 0, 1, 0]))) (ex PP (orc spec_NarrowHidden.id) rec k (lbody (sub spec_NarrowHidden.body [1, 1, 1, 0, 1, 0]))) (kAt PP (orc spec_NarrowHidden.id) rec k spec_NarrowHidden.body [1, 1, 1, 0, 1, 0] [] (K0 PP Go.Proofs.Try.f49)) n0 (St.of 69 [(0, .sl 1 x0), (1, .int .i64 x1), (5, .sl 1 x5), (6, .int .i64 x6)] []) H) : ∀ n x0 x1 x5 x6 x7 x8 H, spec_NarrowHidden.l1 rec k L0 n x0 x1 x5 x6 x7 x8 H = iter ((orc spec_NarrowHidden.id).at (lbody (sub spec_NarrowHidden.body [1, 1, 1, 0, 1, 0, 0, 1, 0, 0, 1, 1, 0]))) (ex PP (orc spec_NarrowHidden.id) rec k (lbody (sub spec_NarrowHidden.body [1, 1, 1, 0, 1, 0, 0, 1, 0, 0, 1, 1, 0]))) (kAt PP (orc spec_NarrowHidden.id) rec k spec_NarrowHidden.body [1, 1, 1, 0, 1, 0, 0, 1, 0, 0, 1, 1, 0] [n0] (K0 PP Go.Proofs.Try.f49)) n (St.of 69 [(0, .sl 1 x0), (1, .int .i64 x1), (5, .sl 1 x5), (6, .int .i64 x6), (7, .sl 1 x7), (8, .int .i64 x8)] []) H := by
  intro n
  induction n with
  | zero => intros; rfl
  | succ n ih =>
    intros x0 x1 x5 x6 x7 x8 H
    simp only [spec_NarrowHidden.l1, hL0, spec_NarrowHidden.l3_eq rec k n0 L0 hL0 n (spec_NarrowHidden.l1 rec k L0 n) (fun x0 x1 x5 x6 x7 x8 H => ih x0 x1 x5 x6 x7 x8 H), spec_NarrowHidden.j4_eq rec k n0 L0 hL0, ih, -eq_self]
    kernel_rfl
theorem spec_NarrowHidden.l0_eq (rec : Rec) (k : Nat) : ∀ n x0 x1 x5 x6 H, spec_NarrowHidden.l0 rec k n x0 x1 x5 x6 H = iter ((orc spec_NarrowHidden.id).at (lbody (sub spec_NarrowHidden.body [1, 1, 1, 0, 1, 0]))) (ex PP (orc spec_NarrowHidden.id) rec k (lbody (sub spec_NarrowHidden.body [1, 1, 1, 0, 1, 0]))) (kAt PP (orc spec_NarrowHidden.id) rec k spec_NarrowHidden.body [1, 1, 1, 0, 1, 0] [] (K0 PP Go.Proofs.Try.f49)) n (St.of 69 [(0, .sl 1 x0), (1, .int .i64 x1), (5, .sl 1 x5), (6, .int .i64 x6)] []) H := by
  intro n
  induction n with
  | zero => intros; rfl
  | succ n ih =>
    intros x0 x1 x5 x6 H
    simp only [spec_NarrowHidden.l0, spec_NarrowHidden.l1_eq rec k n (spec_NarrowHidden.l0 rec k n) (fun x0 x1 x5 x6 H => ih x0 x1 x5 x6 H), spec_NarrowHidden.j2_eq rec k, ih, -eq_self]
    kernel_rfl
theorem spec_NarrowHidden.f_eq (rec : Rec) (k : Nat) : ∀ a0 a1 H, spec_NarrowHidden.f rec k a0 a1 H = ex PP (orc spec_NarrowHidden.id) rec k spec_NarrowHidden.body (St.of 69 [(0, .sl 1 a0), (1, .int .i64 a1)] []) H (K0 PP Go.Proofs.Try.f49) := by
  intros a0 a1 H
  unfold spec_NarrowHidden.f
  try simp only [spec_NarrowHidden.l0_eq rec k, -eq_self]
  kernel_rfl
theorem spec_NarrowHidden.call (k : Nat) : ∀ a0 a1 H, callF PP orc (k + 1) spec_NarrowHidden.id [.sl 1 a0, .int .i64 a1] H = spec_NarrowHidden.f (callF PP orc k) k a0 a1 H := by
  intros a0 a1 H
  rw [callF_at (fn := Go.Proofs.Try.f49) (c := spec_NarrowHidden.body) Go.Proofs.Try.func49 (by kernel_rfl) (Nat.le_of_ble_eq_true (by kernel_rfl)), spec_NarrowHidden.f_eq]
  kernel_rfl
end Go.Proofs.Ytjojhbdghhmeeaa.Rp
/- Starting masks, the first technique: the model's side of the program. No conditions. -/
set_option linter.unusedVariables false
set_option linter.unusedSimpArgs false
namespace Go.Proofs.Ytjojhbdghhmeeaa.Rp
open Go Go.RowKit Go.Proofs.Ytjojhbdghhmeeaa.Ab

theorem l6Copy_ok {k : Nat} (hk : 1 ≤ k) {H : Hp} {s : Sl} {l : List Int} (hs : Reads .i64 H s l) (hl : l.length ≤ 1000) :
    callF PP orc k spec_l6Copy.id [.sl 1 s] H = some (.sl 1 (Sl.mk false H.length 0 l.length), H ++ [some (Blk.mk false (l.map (.int .i64)))]) := by
  obtain ⟨k, rfl⟩ : ∃ q, k = q + 1 := ⟨k - 1, by omega⟩
  rw [spec_l6Copy.call]
  simp only [spec_l6Copy.f, read_ok hs, hs.len, appl_ok _ _ _ (show l.length ≤ 1000000 by omega), Option.bind_some, cells_ok, Bool.and_self, cond_true]

theorem Start_l0 {k : Nat} (hk : 2000003 ≤ k) {H0 : Hp} {n : Int} {gs s : Sl} {given : List Int} {rs : List R} (hz : PuzAt H0 n gs s given rs) (hv : puzzleV n given (rs.map R.val) = true) :
    ∀ (j i fuel : Nat) (H : Hp) (t : Sl), i + j = given.length → j < fuel → H0 <+: H → Own 1 H0 H t ((openOf n (given.take i)).map (.int .i64)) →
      ∃ t' H', spec_StartMasks.l0 (callF PP orc k) k fuel t i n gs s H = some (.sl 1 t', H') ∧ H0 <+: H' ∧ Own 1 H0 H' t' ((openOf n given).map (.int .i64)) := by
  have hg := (puzzleV_iff hv).1
  obtain ⟨hn, g2, g3⟩ := (gridOk_iff given n).1 hg
  have h16 := gridOk_len hg
  have hgl := hz.rg.len
  obtain ⟨p1, p2, p3⟩ := topMask_pw hn
  intro j
  induction j with
  | zero =>
    intro i fuel H t hi hf hp ho
    obtain ⟨fuel, rfl⟩ : ∃ q, fuel = q + 1 := ⟨fuel - 1, by omega⟩
    refine ⟨t, H, ?_, hp, by rw [List.take_of_length_le (by omega)] at ho; exact ho⟩
    simp (disch := omega) only [spec_StartMasks.l0, spec_StartMasks.j1, spec_StartMasks.j3, dt, df, bt, bf, nt, nf, Bool.and_self, Bool.not_true, Bool.not_false, cond_true, cond_false, Int.toNat_natCast, Int.toNat_zero, Int.toNat_one, Option.bind_some, wr, AV.toB, AV.toI, AV.toS, if_true]
  | succ j ih =>
    intro i fuel H t hi hf hp ho
    obtain ⟨fuel, rfl⟩ : ∃ q, fuel = q + 1 := ⟨fuel - 1, by omega⟩
    have hi2 : i < given.length := by omega
    obtain ⟨v0, v1⟩ := g3 _ (mem_getD hi2)
    have hzH := hz.pf hp
    have h1 := specPuzzleValid_ok (show 2000003 ≤ k by omega) hzH.n4 hzH.rg hzH.gl hzH.rr hzH.rl hzH.rc
    rw [puzzle_map, hv] at h1
    have htl : t.len = i := by have := ho.len; simp [openOf] at this; omega
    have htk : openOf n (given.take (i + 1)) = openOf n (given.take i) ++ [if given.getD i 0 > 0 then pw (given.getD i 0) else topMask n] := by
      rw [List.take_succ_eq_append_getElem hi2]; unfold openOf
      rw [List.map_append, List.getD_eq_getElem?_getD, List.getElem?_eq_getElem hi2]; rfl
    obtain ⟨H1, a1, a2, a3, a4, a5⟩ := own_app1 ho hp (if given.getD i 0 > 0 then pw (given.getD i 0) else topMask n) (by omega)
    rw [← htk] at a3
    obtain ⟨t', H', b1, b2, b3⟩ := ih (i + 1) fuel H1 _ (by omega) (by omega) a2 a3
    push_cast at b1
    refine ⟨t', H', ?_, b2, b3⟩
    by_cases c : given.getD i 0 > 0
    · rw [ip c] at a1
      simp (disch := omega) only [spec_StartMasks.l0, spec_StartMasks.j1, spec_StartMasks.j2, spec_StartMasks.j4, dt, df, bt, bf, nt, nf, Bool.and_self, Bool.not_true, Bool.not_false, cond_true, cond_false, Int.toNat_natCast, Int.toNat_zero, Int.toNat_one, Option.bind_some, wr, AV.toB, AV.toI, AV.toS, if_true, h1, rdn hzH.rg, iN, m_shl v0, a1, b1]
    · rw [iN c] at a1
      simp (disch := omega) only [spec_StartMasks.l0, spec_StartMasks.j1, spec_StartMasks.j2, spec_StartMasks.j4, dt, df, bt, bf, nt, nf, Bool.and_self, Bool.not_true, Bool.not_false, cond_true, cond_false, Int.toNat_natCast, Int.toNat_zero, Int.toNat_one, Option.bind_some, wr, AV.toB, AV.toI, AV.toS, if_true, h1, rdn hzH.rg, iN, m_shl (v := n + 1), p1, a1, b1]
theorem specStartMasks_ok {k : Nat} (hk : 2000010 ≤ k) {H : Hp} {n : Int} {gs s : Sl} {given : List Int} {rs : List R} (hz : PuzAt H n gs s given rs) :
    ∃ t H', callF PP orc k spec_StartMasks.id [.agg [.int .i64 n, .sl 1 gs, .sl 3 s]] H = some (.sl 1 t, H') ∧ H <+: H' ∧ Own 1 H H' t ((startV n given (rs.map R.val)).map (.int .i64)) := by
  obtain ⟨k, rfl⟩ : ∃ q, k = q + 1 := ⟨k - 1, by omega⟩
  rw [spec_StartMasks.call]
  have hgl := hz.rg.len
  have hgz := hz.gl
  unfold startV
  cases hv : puzzleV n given (rs.map R.val) with
  | true =>
    rw [ip rfl]
    obtain ⟨t', H', b1, b2, b3⟩ := Start_l0 (show 2000003 ≤ k by omega) hz hv given.length 0 k (H ++ [some (Blk.mk false [])]) (Sl.mk false H.length 0 0) (by omega) (by omega) (List.prefix_append _ _) (own_new 1 H [] 0 rfl)
    exact ⟨t', H', b1, b2, b3⟩
  | false =>
    rw [iN (by simp)]
    refine ⟨Sl.mk false H.length 0 0, H ++ [some (Blk.mk false [])], ?_, (List.prefix_append _ _), own_new 1 H [] 0 rfl⟩
    have hzH := hz.pf (List.prefix_append H [some (Blk.mk false [])])
    have h1 := specPuzzleValid_ok (show 2000003 ≤ k by omega) hzH.n4 hzH.rg hzH.gl hzH.rr hzH.rl hzH.rc
    rw [puzzle_map, hv] at h1
    have hf : spec_StartMasks.f (callF PP orc k) k n gs s H = spec_StartMasks.l0 (callF PP orc k) k k (Sl.mk false H.length 0 0) 0 n gs s (H ++ [some (Blk.mk false [])]) := rfl
    rw [hf]
    generalize callF PP orc k = rc at *
    obtain ⟨q, hq⟩ : ∃ q, k = q + 1 := ⟨k - 1, by omega⟩
    rw [hq]
    by_cases c : 0 < given.length
    · simp (disch := omega) only [spec_StartMasks.l0, spec_StartMasks.j1, spec_StartMasks.j3, dt, df, bt, bf, nt, nf, Bool.and_self, Bool.not_true, Bool.not_false, cond_true, cond_false, Int.toNat_natCast, Int.toNat_zero, Int.toNat_one, Option.bind_some, wr, AV.toB, AV.toI, AV.toS, if_true, h1]
    · simp (disch := omega) only [spec_StartMasks.l0, spec_StartMasks.j1, spec_StartMasks.j3, dt, df, bt, bf, nt, nf, Bool.and_self, Bool.not_true, Bool.not_false, cond_true, cond_false, Int.toNat_natCast, Int.toNat_zero, Int.toNat_one, Option.bind_some, wr, AV.toB, AV.toI, AV.toS, if_true]

theorem tdivN (a b : Nat) : ((a : Int)).tdiv (b : Int) = ((a / b : Nat) : Int) := rfl
theorem tmodN (a b : Nat) : ((a : Int)).tmod (b : Int) = ((a % b : Nat) : Int) := rfl
theorem wdiv {a : Nat} (N : Nat) (h : a ≤ 1000) : IntKind.i64.wrap ((a / N : Nat) : Int) = ((a / N : Nat) : Int) := by
  have := Nat.div_le_self a N
  generalize a / N = z at *
  exact wr (by omega) (by omega)
theorem ncb {a b : Nat} : (((a : Nat) : Int) == ((b : Nat) : Int)) = (a == b) := by rw [Bool.eq_iff_iff]; simp; omega
theorem Singles_l2 (rec : Rec) (k : Nat) (L0 : Sl → Int → Sl → Int → Hp → An) {H0 : Hp} {ms t : Sl} {l : List Int} {N : Nat} (hN : 0 < N) (hm : Reads .i64 H0 ms l) (hl : l.length ≤ 100) {i : Nat} (hi : i < l.length) (hM : Ms l) :
    ∀ (j q fuel : Nat) (H : Hp) (a : List Int) (P : Nat → Nat → Prop), q + j = l.length → j < fuel → H0 <+: H → Own 1 H0 H t (a.map (.int .i64)) → Sub l a P →
      ∃ H' a', spec_NarrowSingles.l2 rec k L0 fuel ms (N : Int) t i q H = L0 ms (N : Int) t ((i : Int) + 1) H' ∧ H0 <+: H' ∧ Own 1 H0 H' t (a'.map (.int .i64)) ∧ Sub l a' (fun x v => P x v ∨ (q ≤ x ∧ peer N x i ∧ Rp.has (l.getD i 0) v = true)) := by
  have hml := hm.len
  have hiM := hM.at i
  intro j
  induction j with
  | zero =>
    intro q fuel H a P hq hf hp ho hs
    obtain ⟨fuel, rfl⟩ : ∃ q, fuel = q + 1 := ⟨fuel - 1, by omega⟩
    refine ⟨H, a, ?_, hp, ho, hs.congr fun x v hx => ⟨.inl, by rintro (h | ⟨h, _⟩); exact h; omega⟩⟩
    simp (disch := omega) only [spec_NarrowSingles.l2, spec_NarrowSingles.j1, dt, df, bt, bf, nt, nf, Bool.and_self, Bool.not_true, Bool.not_false, cond_true, cond_false, Int.toNat_natCast, Int.toNat_zero, Int.toNat_one, Option.bind_some, wr, AV.toB, AV.toI, AV.toS, if_true]
  | succ j ih =>
    intro q fuel H a P hq hf hp ho hs
    obtain ⟨fuel, rfl⟩ : ∃ q, fuel = q + 1 := ⟨fuel - 1, by omega⟩
    have hal := hs.len
    have htl : t.len = a.length := by have := ho.len; simpa using this
    have hq2 : q < l.length := by omega
    have hrd := pf_reads hp hm
    have d1 := Nat.div_le_self q N
    have d2 := Nat.div_le_self i N
    have go : ∀ c : Bool, (c = true ↔ peer N q i) → ∃ H' a', spec_NarrowSingles.j4 rec k L0 (spec_NarrowSingles.l2 rec k L0 fuel) ms (N : Int) t i q c H = L0 ms (N : Int) t ((i : Int) + 1) H' ∧ H0 <+: H' ∧ Own 1 H0 H' t (a'.map (.int .i64)) ∧ Sub l a' (fun x v => P x v ∨ (q ≤ x ∧ peer N x i ∧ Rp.has (l.getD i 0) v = true)) := by
      intro c hc
      cases c with
      | true =>
        have hpq := hc.1 rfl
        obtain ⟨H1, a1, a2, a3, a4⟩ := own_set1 ho hp q (by omega) (mSub (a.getD q 0) (l.getD i 0))
        obtain ⟨H', a', b1, b2, b3, b4⟩ := ih (q + 1) fuel H1 _ _ (by omega) (by omega) a2 a3 (hs.step q hq2 hiM)
        push_cast at b1
        refine ⟨H', a', ?_, b2, b3, b4.congr fun x v hx => ?_⟩
        · simp (disch := omega) only [spec_NarrowSingles.j4, spec_NarrowSingles.j5, dt, df, bt, bf, nt, nf, Bool.and_self, Bool.not_true, Bool.not_false, cond_true, cond_false, Int.toNat_natCast, Int.toNat_zero, Int.toNat_one, Option.bind_some, wr, AV.toB, AV.toI, AV.toS, if_true, rdn (own_reads ho), rdn hrd, m_sub (hs.ms.at q) hiM, a1, b1]
        · constructor
          · rintro ((h | ⟨h1, h2⟩) | ⟨h1, h2⟩)
            · exact .inl h
            · subst h1; exact .inr ⟨Nat.le_refl _, hpq, h2⟩
            · exact .inr ⟨by omega, h2⟩
          · rintro (h | ⟨h1, h2, h3⟩)
            · exact .inl (.inl h)
            · by_cases e : x = q
              · exact .inl (.inr ⟨e, h3⟩)
              · exact .inr ⟨by omega, h2, h3⟩
      | false =>
        have hpq : ¬ peer N q i := fun h => by have := hc.2 h; cases this
        obtain ⟨H', a', b1, b2, b3, b4⟩ := ih (q + 1) fuel H a P (by omega) (by omega) hp ho hs
        push_cast at b1
        refine ⟨H', a', ?_, b2, b3, b4.congr fun x v hx => ?_⟩
        · simp (disch := omega) only [spec_NarrowSingles.j4, spec_NarrowSingles.j5, dt, df, bt, bf, nt, nf, Bool.and_self, Bool.not_true, Bool.not_false, cond_true, cond_false, Int.toNat_natCast, Int.toNat_zero, Int.toNat_one, Option.bind_some, wr, AV.toB, AV.toI, AV.toS, if_true, b1]
        · constructor
          · rintro (h | ⟨h1, h2⟩)
            · exact .inl h
            · exact .inr ⟨by omega, h2⟩
          · rintro (h | ⟨h1, h2, h3⟩)
            · exact .inl h
            · refine .inr ⟨?_, h2, h3⟩
              by_cases e : x = q
              · subst e; exact absurd h2 hpq
              · omega
    by_cases e : q = i
    · obtain ⟨H', a', b1, b2⟩ := go false ⟨fun h => (by cases h), fun h => absurd e h.1⟩
      refine ⟨H', a', ?_, b2⟩
      rw [← b1]
      simp (disch := omega) only [spec_NarrowSingles.l2, dt, df, bt, bf, nt, nf, Bool.and_self, Bool.not_true, Bool.not_false, cond_true, cond_false, Int.toNat_natCast, Int.toNat_zero, Int.toNat_one, Option.bind_some, wr, AV.toB, AV.toI, AV.toS, if_true]
    · by_cases e1 : q / N = i / N
      · obtain ⟨H', a', b1, b2⟩ := go true ⟨fun _ => ⟨e, .inl e1⟩, fun _ => rfl⟩
        refine ⟨H', a', ?_, b2⟩
        rw [← b1]
        have hb : (q / N == i / N) = true := by simpa using e1
        simp (disch := omega) only [spec_NarrowSingles.l2, dt, nt, cond_true, iN, tdivN, wdiv, ncb, hb]
      · obtain ⟨H', a', b1, b2⟩ := go (((q : Int)).tmod (N : Int) == ((i : Int)).tmod (N : Int)) (by
          rw [tmodN, tmodN, beq_iff_eq]
          constructor
          · intro h; exact ⟨e, .inr (by omega)⟩
          · rintro ⟨_, h | h⟩
            · exact absurd h e1
            · omega)
        refine ⟨H', a', ?_, b2⟩
        rw [← b1]
        have hb : (q / N == i / N) = false := by simpa using e1
        simp (disch := omega) only [spec_NarrowSingles.l2, dt, nt, cond_true, cond_false, iN, tdivN, wdiv, ncb, hb]
theorem Singles_l0 {k : Nat} (hk : 2000000 ≤ k) {H0 : Hp} {ms t : Sl} {l : List Int} {N : Nat} (hN : 0 < N) (hm : Reads .i64 H0 ms l) (hl : l.length ≤ 100) (hM : Ms l) :
    ∀ (j i fuel : Nat) (H : Hp) (a : List Int) (P : Nat → Nat → Prop), i + j = l.length → j < fuel → H0 <+: H → Own 1 H0 H t (a.map (.int .i64)) → Sub l a P →
      ∃ H' a', spec_NarrowSingles.l0 (callF PP orc k) k fuel ms (N : Int) t i H = some (.sl 1 t, H') ∧ H0 <+: H' ∧ Own 1 H0 H' t (a'.map (.int .i64)) ∧ Sub l a' (fun x v => P x v ∨ ∃ q, i ≤ q ∧ q < l.length ∧ peer N x q ∧ single (l.getD q 0) = true ∧ Rp.has (l.getD q 0) v = true) := by
  have hml := hm.len
  intro j
  induction j with
  | zero =>
    intro i fuel H a P hi hf hp ho hs
    obtain ⟨fuel, rfl⟩ : ∃ q, fuel = q + 1 := ⟨fuel - 1, by omega⟩
    refine ⟨H, a, ?_, hp, ho, hs.congr fun x v hx => ⟨.inl, by rintro (h | ⟨q, h1, h2, _⟩); exact h; omega⟩⟩
    simp (disch := omega) only [spec_NarrowSingles.l0, spec_NarrowSingles.j3, dt, df, bt, bf, nt, nf, Bool.and_self, Bool.not_true, Bool.not_false, cond_true, cond_false, Int.toNat_natCast, Int.toNat_zero, Int.toNat_one, Option.bind_some, wr, AV.toB, AV.toI, AV.toS, if_true]
  | succ j ih =>
    intro i fuel H a P hi hf hp ho hs
    obtain ⟨fuel, rfl⟩ : ∃ q, fuel = q + 1 := ⟨fuel - 1, by omega⟩
    have hi2 : i < l.length := by omega
    have hrd := pf_reads hp hm
    obtain ⟨u, H1, a1, a2, a3⟩ := MaskValues_ok hk (l.getD i 0) H
    have hul := (own_reads a3).len
    by_cases c : (maskVals (l.getD i 0)).length = 1
    · obtain ⟨H2, a', b1, b2, b3, b4⟩ := Singles_l2 (callF PP orc k) k (spec_NarrowSingles.l0 (callF PP orc k) k fuel) hN hm hl hi2 hM l.length 0 k H1 a P (by omega) (by omega) (hp.trans a2) (own_pf ho a2) hs
      obtain ⟨H', a'', d1, d2, d3, d4⟩ := ih (i + 1) fuel H2 a' _ (by omega) (by omega) b2 b3 b4
      push_cast at d1
      refine ⟨H', a'', ?_, d2, d3, d4.congr fun x v hx => ?_⟩
      · simp only [Int.natCast_zero] at b1
        simp (disch := omega) only [spec_NarrowSingles.l0, dt, df, bt, bf, nt, nf, Bool.and_self, Bool.not_true, Bool.not_false, cond_true, cond_false, Int.toNat_natCast, Int.toNat_zero, Int.toNat_one, Option.bind_some, wr, AV.toB, AV.toI, AV.toS, if_true, rdn hrd, a1, hul, b1, d1]
      · have hs1 : single (l.getD i 0) = true := by unfold single; rw [c]; rfl
        constructor
        · rintro ((h | ⟨_, h2, h3⟩) | ⟨q, h1, h2⟩)
          · exact .inl h
          · exact .inr ⟨i, Nat.le_refl _, hi2, h2, hs1, h3⟩
          · exact .inr ⟨q, by omega, h2⟩
        · rintro (h | ⟨q, h1, h2, h3, h4, h5⟩)
          · exact .inl (.inl h)
          · by_cases e : q = i
            · subst e; exact .inl (.inr ⟨by omega, h3, h5⟩)
            · exact .inr ⟨q, by omega, h2, h3, h4, h5⟩
    · obtain ⟨H', a'', d1, d2, d3, d4⟩ := ih (i + 1) fuel H1 a P (by omega) (by omega) (hp.trans a2) (own_pf ho a2) hs
      push_cast at d1
      refine ⟨H', a'', ?_, d2, d3, d4.congr fun x v hx => ?_⟩
      · simp (disch := omega) only [spec_NarrowSingles.l0, spec_NarrowSingles.j1, dt, df, bt, bf, nt, nf, Bool.and_self, Bool.not_true, Bool.not_false, cond_true, cond_false, Int.toNat_natCast, Int.toNat_zero, Int.toNat_one, Option.bind_some, wr, AV.toB, AV.toI, AV.toS, if_true, rdn hrd, a1, hul, d1]
      · have hs1 : ¬ single (l.getD i 0) = true := by unfold single; rw [beq_iff_eq]; exact c
        constructor
        · rintro (h | ⟨q, h1, h2⟩)
          · exact .inl h
          · exact .inr ⟨q, by omega, h2⟩
        · rintro (h | ⟨q, h1, h2, h3, h4, h5⟩)
          · exact .inl h
          · refine .inr ⟨q, ?_, h2, h3, h4, h5⟩
            by_cases e : q = i
            · subst e; exact absurd h4 hs1
            · omega
theorem specNarrowSingles_ok {k : Nat} (hk : 2000010 ≤ k) {H : Hp} {ms : Sl} {l : List Int} {n : Int} (hb : -1 ≤ n ∧ n ≤ 5) (hm : Reads .i64 H ms l) (hl : l.length ≤ 1000) :
    ∃ t H', callF PP orc k spec_NarrowSingles.id [.sl 1 ms, .int .i64 n] H = some (.sl 1 t, H') ∧ H <+: H' ∧ Own 1 H H' t ((singlesV n l).map (.int .i64)) := by
  obtain ⟨k, rfl⟩ : ∃ q, k = q + 1 := ⟨k - 1, by omega⟩
  rw [spec_NarrowSingles.call]
  have h1 := specMasksValid_any (show 2000000 ≤ k by omega) hb hm hl
  unfold singlesV
  cases hv : masksOk n l with
  | false =>
    rw [hv] at h1
    rw [iN (by simp)]
    exact ⟨Sl.mk false H.length 0 0, H ++ [some (Blk.mk false [])], by simp only [spec_NarrowSingles.f, dt, df, bt, bf, nt, nf, Bool.and_self, Bool.not_true, Bool.not_false, cond_true, cond_false, Int.toNat_natCast, Int.toNat_zero, Int.toNat_one, Option.bind_some, wr, AV.toB, AV.toI, AV.toS, if_true, h1], (List.prefix_append _ _), own_new 1 H [] 0 rfl⟩
  | true =>
    rw [hv] at h1
    rw [ip rfl]
    obtain ⟨l4, l16, lN, hN, n2, n4⟩ := masks_len hv
    have hM := masks_M hv
    have h2 := l6Copy_ok (show 1 ≤ k by omega) hm hl
    have hnew := own_new 1 H (l.map (.int .i64)) l.length (by simp)
    obtain ⟨H', a', b1, b2, b3, b4⟩ := Singles_l0 (show 2000000 ≤ k by omega) (N := n.toNat) (by omega) hm (by omega) hM l.length 0 k (H ++ [some (Blk.mk false (l.map (.int .i64)))]) l _ (by omega) (by omega) (List.prefix_append _ _) hnew (Sub.refl hM)
    rw [← hN] at b1
    have e : a' = subAll l (PS n.toNat l) := (b4.congr fun x v hx => (show _ ↔ PS n.toNat l x v from ⟨by rintro (h | ⟨q, _, h⟩); exact h.elim; exact ⟨q, h⟩, fun ⟨q, h⟩ => .inr ⟨q, by omega, h⟩⟩)).eq hM
    subst e
    refine ⟨_, H', ?_, b2, b3⟩
    simp only [Int.natCast_zero] at b1
    simp only [spec_NarrowSingles.f, dt, df, bt, bf, nt, nf, Bool.and_self, Bool.not_true, Bool.not_false, cond_true, cond_false, Int.toNat_natCast, Int.toNat_zero, Int.toNat_one, Option.bind_some, wr, AV.toB, AV.toI, AV.toS, if_true, h1, h2, b1]
theorem reads_from {k : IntKind} {H : Hp} {s : Sl} {l : List Int} (h : Reads k H s l) (m : Nat) (hm : m ≤ l.length) : Reads k H (Sl.mk s.nil s.blk (s.off + m) (l.length - m)) (l.drop m) := by
  refine ⟨by simp, fun i hi => ?_⟩
  have hi2 : m + i < l.length := by simp at hi; omega
  have := h.cell (m + i) hi2
  have e : (l.drop m)[i] = l[m + i] := by simp
  rw [e, ← this]
  show H.cell s.blk (s.off + m + i) = _
  rw [Nat.add_assoc]
end Go.Proofs.Ytjojhbdghhmeeaa.Rp
/- The second technique: the model's side of the program. No conditions. -/
set_option linter.unusedVariables false
set_option linter.unusedSimpArgs false
namespace Go.Proofs.Ytjojhbdghhmeeaa.Rp
open Go Go.RowKit Go.Proofs.Ytjojhbdghhmeeaa.Ab

/-- Counting the cells of a line that have a value. -/
theorem Hidden_l3 (rec : Rec) (k : Nat) (L0 : Sl → Int → Sl → Int → Hp → An) (L1 : Sl → Int → Sl → Int → Sl → Int → Hp → An) {H : Hp} {ms t cs : Sl} {l cells : List Int} {n line : Int} {v : Nat} (hm : Reads .i64 H ms l) (hc : Reads .i64 H cs cells) (hcl : cells.length ≤ 10) (hin : ∀ c ∈ cells, 0 ≤ c ∧ c.toNat < l.length ∧ c < (l.length : Int)) (hM : Ms l) (hv : 1 ≤ v ∧ v ≤ 4) :
    ∀ (j q fuel : Nat) (many at' : Int), q + j = cells.length → j < fuel → 0 ≤ many → many ≤ q →
      ∃ at2, spec_NarrowHidden.l3 rec k L0 L1 fuel ms n t line cs v many at' q H = spec_NarrowHidden.j6 rec k L0 L1 ms n t line cs v (many + ((cells.drop q).filter fun c => has (l.getD c.toNat 0) v).length) at2 H ∧ (∀ c, many = 0 → (cells.drop q).filter (fun c => has (l.getD c.toNat 0) v) = [c] → at2 = c) ∧ ((cells.drop q).filter (fun c => has (l.getD c.toNat 0) v) = [] → at2 = at') := by
  have hml := hm.len
  have hcs := hc.len
  intro j
  induction j with
  | zero =>
    intro q fuel many at' hq hf h0 h1
    obtain ⟨fuel, rfl⟩ : ∃ q, fuel = q + 1 := ⟨fuel - 1, by omega⟩
    rw [List.drop_eq_nil_of_le (by omega)]
    refine ⟨at', ?_, fun c _ h => (by cases h), fun _ => rfl⟩
    simp (disch := omega) only [spec_NarrowHidden.l3, dt, df, bt, bf, nt, nf, Bool.and_self, Bool.not_true, Bool.not_false, cond_true, cond_false, Int.toNat_natCast, Int.toNat_zero, Int.toNat_one, Option.bind_some, wr, AV.toB, AV.toI, AV.toS, if_true, List.filter_nil, List.length_nil, Int.natCast_zero, Int.add_zero]
  | succ j ih =>
    intro q fuel many at' hq hf h0 h1
    obtain ⟨fuel, rfl⟩ : ∃ q, fuel = q + 1 := ⟨fuel - 1, by omega⟩
    have hq2 : q < cells.length := by omega
    obtain ⟨c0, c1, c2⟩ := hin _ (mem_getD hq2)
    have hd : cells.drop q = cells.getD q 0 :: cells.drop (q + 1) := by
      rw [List.drop_eq_getElem_cons hq2, List.getD_eq_getElem?_getD, List.getElem?_eq_getElem hq2]; rfl
    rw [hd, List.filter_cons]
    have hb := m_bit (v := (v : Int)) (hM.at (cells.getD q 0).toNat) (by omega) (by omega)
    rw [Int.toNat_natCast] at hb
    cases hh : has (l.getD (cells.getD q 0).toNat 0) v with
    | true =>
      rw [hh] at hb
      obtain ⟨at2, a1, a2, a3⟩ := ih (q + 1) fuel (many + 1) (cells.getD q 0) (by omega) (by omega) (by omega) (by omega)
      push_cast at a1
      rw [if_pos rfl, List.length_cons]
      refine ⟨at2, ?_, fun c hm0 he => ?_, fun h => by cases h⟩
      · push_cast
        rw [show many + ((((cells.drop (q + 1)).filter fun c => has (l.getD c.toNat 0) v).length : Int) + 1) = many + 1 + (((cells.drop (q + 1)).filter fun c => has (l.getD c.toNat 0) v).length : Int) by omega, ← a1]
        simp (disch := omega) only [spec_NarrowHidden.l3, spec_NarrowHidden.j5, dt, df, Bool.and_self, cond_true, Int.toNat_natCast, Option.bind_some, rdn hc, rdn hm, iN, hb, wr]
      · rw [List.cons.injEq] at he
        rw [a3 he.2]; exact he.1
    | false =>
      rw [hh] at hb
      obtain ⟨at2, a1, a2, a3⟩ := ih (q + 1) fuel many at' (by omega) (by omega) h0 (by omega)
      push_cast at a1
      rw [if_neg (by simp)]
      refine ⟨at2, ?_, a2, a3⟩
      rw [← a1]
      simp (disch := omega) only [spec_NarrowHidden.l3, spec_NarrowHidden.j5, dt, df, Bool.and_self, cond_true, cond_false, Int.toNat_natCast, Option.bind_some, rdn hc, rdn hm, iN, hb, wr]
/-- The values from v on of one line. -/
theorem Hidden_l1 (rec : Rec) (k : Nat) (hk : 100 ≤ k) (L0 : Sl → Int → Sl → Int → Hp → An) {H0 : Hp} {ms t cs : Sl} {l : List Int} {n : Int} {line : Nat} (hmk : masksOk n l = true) (hm : Reads .i64 H0 ms l) (hline : (line : Int) < 2 * n) (hcb : cs.blk ≠ t.blk) :
    ∀ (j v fuel : Nat) (H : Hp) (a : List Int) (P : Nat → Nat → Prop), (v : Int) + j = n + 1 → 1 ≤ v → j < fuel → H0 <+: H → Reads .i64 H cs (lineCells n line) → Own 1 H0 H t (a.map (.int .i64)) → Sub l a P →
      ∃ H' a', spec_NarrowHidden.l1 rec k L0 fuel ms n t line cs v H = L0 ms n t ((line : Int) + 1) H' ∧ H0 <+: H' ∧ Own 1 H0 H' t (a'.map (.int .i64)) ∧ Sub l a' (fun x w => P x w ∨ ∃ u : Nat, v ≤ u ∧ (u : Int) ≤ n ∧ lineHas n l line u = [(x : Int)] ∧ w ≠ u) := by
  obtain ⟨l4, l16, lN, hN, n2, n4⟩ := masks_len hmk
  have hM := masks_M hmk
  have hlc := lineCells_len n line
  intro j
  induction j with
  | zero =>
    intro v fuel H a P hv hv1 hf hp hc ho hs
    obtain ⟨fuel, rfl⟩ : ∃ q, fuel = q + 1 := ⟨fuel - 1, by omega⟩
    refine ⟨H, a, ?_, hp, ho, hs.congr fun x w hx => ⟨.inl, by rintro (h | ⟨u, h1, h2, _⟩); exact h; omega⟩⟩
    simp (disch := omega) only [spec_NarrowHidden.l1, spec_NarrowHidden.j4, dt, df, bt, bf, nt, nf, Bool.and_self, Bool.not_true, Bool.not_false, cond_true, cond_false, Int.toNat_natCast, Int.toNat_zero, Int.toNat_one, Option.bind_some, wr, AV.toB, AV.toI, AV.toS, if_true]
  | succ j ih =>
    intro v fuel H a P hv hv1 hf hp hc ho hs
    obtain ⟨fuel, rfl⟩ : ∃ q, fuel = q + 1 := ⟨fuel - 1, by omega⟩
    have hal := hs.len
    have htl : t.len = a.length := by have := ho.len; simpa using this
    obtain ⟨at2, b1, b2, b3⟩ := Hidden_l3 rec k L0 (spec_NarrowHidden.l1 rec k L0 fuel) (t := t) (n := n) (line := (line : Int)) (pf_reads hp hm) hc (by omega) (fun c h => line_in hmk h) hM (v := v) ⟨hv1, by omega⟩ (lineCells n line).length 0 k 0 0 (by omega) (by omega) (by omega) (by omega)
    simp only [List.drop_zero, Int.natCast_zero, Int.zero_add] at b1 b2
    have hlh : (lineCells n line).filter (fun c => has (l.getD c.toNat 0) v) = lineHas n l line v := rfl
    rw [hlh] at b1 b2
    by_cases c : (lineHas n l line v).length = 1
    · obtain ⟨x0, hx0⟩ := List.length_eq_one_iff.1 c
      have hat := b2 x0 (by first | rfl | trivial) hx0
      have hxm : x0 ∈ lineCells n line := (List.mem_filter.1 (show x0 ∈ lineHas n l line v by rw [hx0]; simp)).1
      obtain ⟨q0, q1, q2⟩ := line_in hmk hxm
      have hpm : M (pw (v : Int)) := M.pw (by omega) (by omega)
      have h31 : M (mSub 31 (pw (v : Int))) := M.sub ⟨by decide, by decide⟩ hpm
      obtain ⟨H1, d1, d2, d3, d4⟩ := own_set1 ho hp x0.toNat (by omega) (mAnd (a.getD x0.toNat 0) (pw (v : Int)))
      have hs1 := hs.step x0.toNat q1 h31
      rw [← and_sub (hs.ms.at _) hpm] at hs1
      obtain ⟨H', a', e1, e2, e3, e4⟩ := ih (v + 1) fuel H1 _ _ (by omega) (by omega) (by omega) d2 (d4.reads hcb hc) d3 hs1
      push_cast at e1
      refine ⟨H', a', ?_, e2, e3, e4.congr5 hM fun x w hx hw => ?_⟩
      · rw [c] at b1
        subst hat
        simp only [Int.natCast_one] at b1
        simp (disch := omega) only [spec_NarrowHidden.l1, dt, cond_true, b1, spec_NarrowHidden.j6, bt, Bool.and_self, Option.bind_some, rdn (own_reads ho), iN, m_shl (v := (v : Int)), m_and (hs.ms.at _) hpm, d1, spec_NarrowHidden.j7, wr (n := (v : Int) + 1), e1]
      · have hnot : Rp.has (mSub 31 (pw (v : Int))) w = true ↔ w ≠ v := by
          rcases has_all w hw (pw (v : Int)) with e | e
          · rw [e, has_pw (by omega)]
            simp only [Bool.not_eq_true', decide_eq_false_iff_not]
            constructor <;> (intro h e; apply h; omega)
          · exact absurd hpm e
        constructor
        · rintro ((h | ⟨h1, h2⟩) | ⟨u, h1, h2⟩)
          · exact .inl h
          · subst h1
            exact .inr ⟨v, Nat.le_refl _, by omega, by rw [hx0]; congr 1; omega, hnot.1 h2⟩
          · exact .inr ⟨u, by omega, h2⟩
        · rintro (h | ⟨u, h1, h2, h3, h4⟩)
          · exact .inl (.inl h)
          · by_cases e : u = v
            · subst e
              rw [hx0, List.cons.injEq] at h3
              exact .inl (.inr ⟨by omega, hnot.2 h4⟩)
            · exact .inr ⟨u, by omega, h2, h3, h4⟩
    · obtain ⟨H', a', e1, e2, e3, e4⟩ := ih (v + 1) fuel H a P (by omega) (by omega) (by omega) hp hc ho hs
      push_cast at e1
      refine ⟨H', a', ?_, e2, e3, e4.congr fun x w hx => ?_⟩
      · simp (disch := omega) only [spec_NarrowHidden.l1, dt, cond_true, b1, spec_NarrowHidden.j6, bf, cond_false, spec_NarrowHidden.j7, wr (n := (v : Int) + 1), e1]
      · constructor
        · rintro (h | ⟨u, h1, h2⟩)
          · exact .inl h
          · exact .inr ⟨u, by omega, h2⟩
        · rintro (h | ⟨u, h1, h2, h3, h4⟩)
          · exact .inl h
          · refine .inr ⟨u, ?_, h2, h3, h4⟩
            by_cases e : u = v
            · subst e; rw [h3] at c; exact absurd rfl c
            · omega
theorem Hidden_l0 {k : Nat} (hk : 2000000 ≤ k) {H0 : Hp} {ms t : Sl} {l : List Int} {n : Int} (hmk : masksOk n l = true) (hm : Reads .i64 H0 ms l) :
    ∀ (j line fuel : Nat) (H : Hp) (a : List Int) (P : Nat → Nat → Prop), (line : Int) + j = 2 * n → j < fuel → H0 <+: H → Own 1 H0 H t (a.map (.int .i64)) → Sub l a P →
      ∃ H' a', spec_NarrowHidden.l0 (callF PP orc k) k fuel ms n t line H = some (.sl 1 t, H') ∧ H0 <+: H' ∧ Own 1 H0 H' t (a'.map (.int .i64)) ∧ Sub l a' (fun x w => P x w ∨ ∃ ln u : Nat, line ≤ ln ∧ (ln : Int) < 2 * n ∧ 1 ≤ u ∧ (u : Int) ≤ n ∧ lineHas n l ln u = [(x : Int)] ∧ w ≠ u) := by
  obtain ⟨l4, l16, lN, hN, n2, n4⟩ := masks_len hmk
  intro j
  induction j with
  | zero =>
    intro line fuel H a P hl hf hp ho hs
    obtain ⟨fuel, rfl⟩ : ∃ q, fuel = q + 1 := ⟨fuel - 1, by omega⟩
    refine ⟨H, a, ?_, hp, ho, hs.congr fun x w hx => ⟨.inl, by rintro (h | ⟨ln, u, h1, h2, _⟩); exact h; omega⟩⟩
    simp (disch := omega) only [spec_NarrowHidden.l0, spec_NarrowHidden.j2, dt, df, bt, bf, nt, nf, Bool.and_self, Bool.not_true, Bool.not_false, cond_true, cond_false, Int.toNat_natCast, Int.toNat_zero, Int.toNat_one, Option.bind_some, wr, AV.toB, AV.toI, AV.toS, if_true]
  | succ j ih =>
    intro line fuel H a P hl hf hp ho hs
    obtain ⟨fuel, rfl⟩ : ∃ q, fuel = q + 1 := ⟨fuel - 1, by omega⟩
    obtain ⟨cs, H1, a1, a2, a3⟩ := specLineCells_own hk n (line : Int) H
    have hcb : cs.blk ≠ t.blk := by have := a3.blk; have := own_lt' ho; omega
    obtain ⟨H2, a', b1, b2, b3, b4⟩ := Hidden_l1 (callF PP orc k) k (by omega) (spec_NarrowHidden.l0 (callF PP orc k) k fuel) hmk hm (by omega) hcb n.toNat 1 k H1 a P (by omega) (by omega) (by omega) (hp.trans a2) (own_reads a3) (own_pf ho a2) hs
    obtain ⟨H', a'', d1, d2, d3, d4⟩ := ih (line + 1) fuel H2 a' _ (by omega) (by omega) b2 b3 b4
    push_cast at d1
    refine ⟨H', a'', ?_, d2, d3, d4.congr fun x w hx => ?_⟩
    · simp only [Int.natCast_one] at b1
      simp (disch := omega) only [spec_NarrowHidden.l0, dt, df, bt, bf, nt, nf, Bool.and_self, Bool.not_true, Bool.not_false, cond_true, cond_false, Int.toNat_natCast, Int.toNat_zero, Int.toNat_one, Option.bind_some, wr, AV.toB, AV.toI, AV.toS, if_true, a1, b1, d1]
    · constructor
      · rintro ((h | ⟨u, h1, h2, h3, h4⟩) | ⟨ln, u, h1, h2⟩)
        · exact .inl h
        · exact .inr ⟨line, u, Nat.le_refl _, by omega, h1, h2, h3, h4⟩
        · exact .inr ⟨ln, u, by omega, h2⟩
      · rintro (h | ⟨ln, u, h1, h2, h3, h4, h5, h6⟩)
        · exact .inl (.inl h)
        · by_cases e : ln = line
          · subst e; exact .inl (.inr ⟨u, h3, h4, h5, h6⟩)
          · exact .inr ⟨ln, u, by omega, h2, h3, h4, h5, h6⟩
theorem specNarrowHidden_ok {k : Nat} (hk : 2000010 ≤ k) {H : Hp} {ms : Sl} {l : List Int} {n : Int} (hb : -1 ≤ n ∧ n ≤ 5) (hm : Reads .i64 H ms l) (hl : l.length ≤ 1000) :
    ∃ t H', callF PP orc k spec_NarrowHidden.id [.sl 1 ms, .int .i64 n] H = some (.sl 1 t, H') ∧ H <+: H' ∧ Own 1 H H' t ((hiddenV n l).map (.int .i64)) := by
  obtain ⟨k, rfl⟩ : ∃ q, k = q + 1 := ⟨k - 1, by omega⟩
  rw [spec_NarrowHidden.call]
  have h1 := specMasksValid_any (show 2000000 ≤ k by omega) hb hm hl
  unfold hiddenV
  cases hv : masksOk n l with
  | false =>
    rw [hv] at h1
    rw [iN (by simp)]
    exact ⟨Sl.mk false H.length 0 0, H ++ [some (Blk.mk false [])], by simp only [spec_NarrowHidden.f, dt, df, bt, bf, nt, nf, Bool.and_self, Bool.not_true, Bool.not_false, cond_true, cond_false, Int.toNat_natCast, Int.toNat_zero, Int.toNat_one, Option.bind_some, wr, AV.toB, AV.toI, AV.toS, if_true, h1], (List.prefix_append _ _), own_new 1 H [] 0 rfl⟩
  | true =>
    rw [hv] at h1
    rw [ip rfl]
    obtain ⟨l4, l16, lN, hN, n2, n4⟩ := masks_len hv
    have hM := masks_M hv
    have h2 := l6Copy_ok (show 1 ≤ k by omega) hm hl
    have hnew := own_new 1 H (l.map (.int .i64)) l.length (by simp)
    obtain ⟨H', a', b1, b2, b3, b4⟩ := Hidden_l0 (show 2000000 ≤ k by omega) hv hm (2 * n).toNat 0 k (H ++ [some (Blk.mk false (l.map (.int .i64)))]) l _ (by omega) (by omega) (List.prefix_append _ _) hnew (Sub.refl hM)
    have e : a' = subAll l (PH n l) := (b4.congr fun x w hx => (show _ ↔ PH n l x w from ⟨by rintro (h | ⟨ln, u, _, h⟩); exact h.elim; exact ⟨ln, u, h⟩, fun ⟨ln, u, h⟩ => .inr ⟨ln, u, by omega, h⟩⟩)).eq hM
    subst e
    refine ⟨_, H', ?_, b2, b3⟩
    simp only [Int.natCast_zero] at b1
    simp only [spec_NarrowHidden.f, dt, df, bt, bf, nt, nf, Bool.and_self, Bool.not_true, Bool.not_false, cond_true, cond_false, Int.toNat_natCast, Int.toNat_zero, Int.toNat_one, Option.bind_some, wr, AV.toB, AV.toI, AV.toS, if_true, h1, h2, b1]
end Go.Proofs.Ytjojhbdghhmeeaa.Rp
