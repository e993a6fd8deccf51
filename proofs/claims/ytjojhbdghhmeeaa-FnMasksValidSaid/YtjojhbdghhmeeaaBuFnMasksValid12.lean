/- Texts for the row of the law FnMasksValid, part 12: the plain machine, the program's functions on it, what they come to. No conditions. -/
import Derived.Test.YtjojhbdghhmeeaaAb
import Derived.Test.YtjojhbdghhmeeaaOr
import Derived.Test.YtjojhbdghhmeeaaAk
import Derived.Test.YtjojhbdghhmeeaaBuFnMasksValid11
import Derived.Test.YtjojhbdghhmeeaaBuFnMasksValid9
/- Functions of the program as plain Lean functions. No conditions. -/
set_option linter.unusedVariables false
set_option linter.unusedSimpArgs false
set_option maxRecDepth 100000
namespace Go.Proofs.Ytjojhbdghhmeeaa.Rp
open Go Go.Proofs.Ytjojhbdghhmeeaa.Ab
noncomputable def spec_NarrowPairs.body : Code := (Go.Proofs.Try.f52).body.getD .skip
noncomputable def spec_NarrowPairs.j2 (rec : Rec) (k : Nat) (x5 : Sl) (H : Hp) : An := some (.sl 1 x5, H)
noncomputable def spec_NarrowPairs.j4 (rec : Rec) (k : Nat) (L0 : Sl → Int → Sl → Int → Hp → An) (x0 : Sl) (x1 : Int) (x5 : Sl) (x6 : Int) (H : Hp) : An := L0 x0 x1 x5 (IntKind.i64.wrap (x6 + 1)) H
noncomputable def spec_NarrowPairs.j6 (rec : Rec) (k : Nat) (L0 : Sl → Int → Sl → Int → Hp → An) (L1 : Sl → Int → Sl → Int → Sl → Int → Hp → An) (x0 : Sl) (x1 : Int) (x5 : Sl) (x6 : Int) (x7 : Sl) (x8 : Int) (H : Hp) : An := L1 x0 x1 x5 x6 x7 (IntKind.i64.wrap (x8 + 1)) H
noncomputable def spec_NarrowPairs.j10 (rec : Rec) (k : Nat) (L0 : Sl → Int → Sl → Int → Hp → An) (L1 : Sl → Int → Sl → Int → Sl → Int → Hp → An) (L3 : Sl → Int → Sl → Int → Sl → Int → Int → Hp → An) (x0 : Sl) (x1 : Int) (x5 : Sl) (x6 : Int) (x7 : Sl) (x8 : Int) (x9 : Int) (H : Hp) : An := L3 x0 x1 x5 x6 x7 x8 (IntKind.i64.wrap (x9 + 1)) H
noncomputable def spec_NarrowPairs.j17 (rec : Rec) (k : Nat) (L0 : Sl → Int → Sl → Int → Hp → An) (L1 : Sl → Int → Sl → Int → Sl → Int → Hp → An) (L3 : Sl → Int → Sl → Int → Sl → Int → Int → Hp → An) (L12 : Sl → Int → Sl → Int → Sl → Int → Int → Int → Int → Hp → An) (x0 : Sl) (x1 : Int) (x5 : Sl) (x6 : Int) (x7 : Sl) (x8 : Int) (x9 : Int) (x10 : Int) (x11 : Int) (H : Hp) : An := L12 x0 x1 x5 x6 x7 x8 x9 x10 (IntKind.i64.wrap (x11 + 1)) H
noncomputable def spec_NarrowPairs.j16 (rec : Rec) (k : Nat) (L0 : Sl → Int → Sl → Int → Hp → An) (L1 : Sl → Int → Sl → Int → Sl → Int → Hp → An) (L3 : Sl → Int → Sl → Int → Sl → Int → Int → Hp → An) (L12 : Sl → Int → Sl → Int → Sl → Int → Int → Int → Int → Hp → An) (x0 : Sl) (x1 : Int) (x5 : Sl) (x6 : Int) (x7 : Sl) (x8 : Int) (x9 : Int) (x10 : Int) (x11 : Int) (x72 : Bool) (H : Hp) : An := bif x72 then bif decide (0 ≤ (x11 : Int)) && decide ((x11 : Int) < x7.len) then (ldI .i64 H x7.blk (x7.off + (x11 : Int).toNat * 1)).bind fun n13 => bif decide (0 ≤ (x11 : Int)) && decide ((x11 : Int) < x7.len) then (ldI .i64 H x7.blk (x7.off + (x11 : Int).toNat * 1)).bind fun n14 => bif decide (0 ≤ (n14 : Int)) && decide ((n14 : Int) < x5.len) then (ldI .i64 H x5.blk (x5.off + (n14 : Int).toNat * 1)).bind fun n15 => bif decide (0 ≤ (n13 : Int)) && decide ((n13 : Int) < x5.len) then (H.sto x5.blk (x5.off + (n13 : Int).toNat * 1) [.int .i64 (IntKind.i64.wrap (((BitVec.ofInt IntKind.i64.bits n15 &&& ~~~ (BitVec.ofInt IntKind.i64.bits x10)).toNat : Int)))]).bind fun H16 => spec_NarrowPairs.j17 rec k L0 L1 L3 L12 x0 x1 x5 x6 x7 x8 x9 x10 x11 H16 else none else none else none else none else spec_NarrowPairs.j17 rec k L0 L1 L3 L12 x0 x1 x5 x6 x7 x8 x9 x10 x11 H
noncomputable def spec_NarrowPairs.j14 (rec : Rec) (k : Nat) (L0 : Sl → Int → Sl → Int → Hp → An) (L1 : Sl → Int → Sl → Int → Sl → Int → Hp → An) (L3 : Sl → Int → Sl → Int → Sl → Int → Int → Hp → An) (L12 : Sl → Int → Sl → Int → Sl → Int → Int → Int → Int → Hp → An) (x0 : Sl) (x1 : Int) (x5 : Sl) (x6 : Int) (x7 : Sl) (x8 : Int) (x9 : Int) (x10 : Int) (x11 : Int) (x65 : Int) (x66 : Int) (x67 : Bool) (x68 : Bool) (x69 : Int) (x70 : Int) (x71 : Bool) (x72 : Bool) (H : Hp) : An := spec_NarrowPairs.j16 rec k L0 L1 L3 L12 x0 x1 x5 x6 x7 x8 x9 x10 x11 x72 H
noncomputable def spec_NarrowPairs.j15 (rec : Rec) (k : Nat) (L0 : Sl → Int → Sl → Int → Hp → An) (L1 : Sl → Int → Sl → Int → Sl → Int → Hp → An) (L3 : Sl → Int → Sl → Int → Sl → Int → Int → Hp → An) (L12 : Sl → Int → Sl → Int → Sl → Int → Int → Int → Int → Hp → An) (x0 : Sl) (x1 : Int) (x5 : Sl) (x6 : Int) (x7 : Sl) (x8 : Int) (x9 : Int) (x10 : Int) (x11 : Int) (x65 : Int) (x66 : Int) (x67 : Bool) (x68 : Bool) (x72 : Bool) (H : Hp) : An := spec_NarrowPairs.j16 rec k L0 L1 L3 L12 x0 x1 x5 x6 x7 x8 x9 x10 x11 x72 H
noncomputable def spec_NarrowPairs.j13 (rec : Rec) (k : Nat) (L0 : Sl → Int → Sl → Int → Hp → An) (L1 : Sl → Int → Sl → Int → Sl → Int → Hp → An) (L3 : Sl → Int → Sl → Int → Sl → Int → Int → Hp → An) (L12 : Sl → Int → Sl → Int → Sl → Int → Int → Int → Int → Hp → An) (x0 : Sl) (x1 : Int) (x5 : Sl) (x6 : Int) (x7 : Sl) (x8 : Int) (x9 : Int) (x10 : Int) (x11 : Int) (x65 : Int) (x66 : Int) (x67 : Bool) (x68 : Bool) (H : Hp) : An := bif x68 then spec_NarrowPairs.j14 rec k L0 L1 L3 L12 x0 x1 x5 x6 x7 x8 x9 x10 x11 x65 x66 x67 true x11 x9 (x11 != x9) (x11 != x9) H else spec_NarrowPairs.j15 rec k L0 L1 L3 L12 x0 x1 x5 x6 x7 x8 x9 x10 x11 x65 x66 x67 false false H
noncomputable def spec_NarrowPairs.l12 (rec : Rec) (k : Nat) (L0 : Sl → Int → Sl → Int → Hp → An) (L1 : Sl → Int → Sl → Int → Sl → Int → Hp → An) (L3 : Sl → Int → Sl → Int → Sl → Int → Int → Hp → An) : Nat → Sl → Int → Sl → Int → Sl → Int → Int → Int → Int → Hp → An
  | 0, _, _, _, _, _, _, _, _, _, _ => none
  | n + 1, x0, x1, x5, x6, x7, x8, x9, x10, x11, H => bif decide (x11 < x1) then spec_NarrowPairs.j13 rec k L0 L1 L3 (spec_NarrowPairs.l12 rec k L0 L1 L3 n) x0 x1 x5 x6 x7 x8 x9 x10 x11 x11 x8 (x11 != x8) (x11 != x8) H else spec_NarrowPairs.j10 rec k L0 L1 L3 x0 x1 x5 x6 x7 x8 x9 H
noncomputable def spec_NarrowPairs.j11 (rec : Rec) (k : Nat) (L0 : Sl → Int → Sl → Int → Hp → An) (L1 : Sl → Int → Sl → Int → Sl → Int → Hp → An) (L3 : Sl → Int → Sl → Int → Sl → Int → Int → Hp → An) (x0 : Sl) (x1 : Int) (x5 : Sl) (x6 : Int) (x7 : Sl) (x8 : Int) (x9 : Int) (x10 : Int) (H : Hp) : An := spec_NarrowPairs.l12 rec k L0 L1 L3 k x0 x1 x5 x6 x7 x8 x9 x10 0 H
noncomputable def spec_NarrowPairs.j9 (rec : Rec) (k : Nat) (L0 : Sl → Int → Sl → Int → Hp → An) (L1 : Sl → Int → Sl → Int → Sl → Int → Hp → An) (L3 : Sl → Int → Sl → Int → Sl → Int → Int → Hp → An) (x0 : Sl) (x1 : Int) (x5 : Sl) (x6 : Int) (x7 : Sl) (x8 : Int) (x9 : Int) (x10 : Int) (x59 : Bool) (H : Hp) : An := bif x59 then spec_NarrowPairs.j10 rec k L0 L1 L3 x0 x1 x5 x6 x7 x8 x9 H else spec_NarrowPairs.j11 rec k L0 L1 L3 x0 x1 x5 x6 x7 x8 x9 x10 H
noncomputable def spec_NarrowPairs.j7 (rec : Rec) (k : Nat) (L0 : Sl → Int → Sl → Int → Hp → An) (L1 : Sl → Int → Sl → Int → Sl → Int → Hp → An) (L3 : Sl → Int → Sl → Int → Sl → Int → Int → Hp → An) (x0 : Sl) (x1 : Int) (x5 : Sl) (x6 : Int) (x7 : Sl) (x8 : Int) (x9 : Int) (x10 : Int) (x45 : Int) (x46 : Sl) (x47 : Sl) (x48 : Int) (x49b : Nat) (x49o : Nat) (x50 : Int) (x51b : Nat) (x51o : Nat) (x52 : Int) (x53 : Bool) (x54 : Bool) (x59 : Bool) (H : Hp) : An := spec_NarrowPairs.j9 rec k L0 L1 L3 x0 x1 x5 x6 x7 x8 x9 x10 x59 H
noncomputable def spec_NarrowPairs.j8 (rec : Rec) (k : Nat) (L0 : Sl → Int → Sl → Int → Hp → An) (L1 : Sl → Int → Sl → Int → Sl → Int → Hp → An) (L3 : Sl → Int → Sl → Int → Sl → Int → Int → Hp → An) (x0 : Sl) (x1 : Int) (x5 : Sl) (x6 : Int) (x7 : Sl) (x8 : Int) (x9 : Int) (x10 : Int) (x45 : Int) (x46 : Sl) (x47 : Sl) (x48 : Int) (x49b : Nat) (x49o : Nat) (x50 : Int) (x51b : Nat) (x51o : Nat) (x52 : Int) (x53 : Bool) (x54 : Bool) (x55 : Int) (x56 : Sl) (x57 : Int) (x58 : Bool) (x59 : Bool) (H : Hp) : An := spec_NarrowPairs.j9 rec k L0 L1 L3 x0 x1 x5 x6 x7 x8 x9 x10 x59 H
noncomputable def spec_NarrowPairs.j5 (rec : Rec) (k : Nat) (L0 : Sl → Int → Sl → Int → Hp → An) (L1 : Sl → Int → Sl → Int → Sl → Int → Hp → An) (L3 : Sl → Int → Sl → Int → Sl → Int → Int → Hp → An) (x0 : Sl) (x1 : Int) (x5 : Sl) (x6 : Int) (x7 : Sl) (x8 : Int) (x9 : Int) (x10 : Int) (x45 : Int) (x46 : Sl) (x47 : Sl) (x48 : Int) (x49b : Nat) (x49o : Nat) (x50 : Int) (x51b : Nat) (x51o : Nat) (x52 : Int) (x53 : Bool) (x54 : Bool) (H : Hp) : An := bif x54 then spec_NarrowPairs.j7 rec k L0 L1 L3 x0 x1 x5 x6 x7 x8 x9 x10 x45 x46 x47 x48 x49b x49o x50 x51b x51o x52 x53 true true H else (rec spec_MaskValues.id [.int .i64 x10] H).bind fun r11 => (r11.1.toS 1).bind fun s12 => spec_NarrowPairs.j8 rec k L0 L1 L3 x0 x1 x5 x6 x7 x8 x9 x10 x45 x46 x47 x48 x49b x49o x50 x51b x51o x52 x53 false x10 s12 (s12.len : Int) ((s12.len : Int) != 2) ((s12.len : Int) != 2) r11.2
noncomputable def spec_NarrowPairs.l3 (rec : Rec) (k : Nat) (L0 : Sl → Int → Sl → Int → Hp → An) (L1 : Sl → Int → Sl → Int → Sl → Int → Hp → An) : Nat → Sl → Int → Sl → Int → Sl → Int → Int → Hp → An
  | 0, _, _, _, _, _, _, _, _ => none
  | n + 1, x0, x1, x5, x6, x7, x8, x9, H => bif decide (x9 < x8) then bif decide (0 ≤ (x8 : Int)) && decide ((x8 : Int) < x7.len) then (ldI .i64 H x7.blk (x7.off + (x8 : Int).toNat * 1)).bind fun n7 => bif decide (0 ≤ (n7 : Int)) && decide ((n7 : Int) < x0.len) then (ldI .i64 H x0.blk (x0.off + (n7 : Int).toNat * 1)).bind fun n8 => bif decide (0 ≤ (x9 : Int)) && decide ((x9 : Int) < x7.len) then (ldI .i64 H x7.blk (x7.off + (x9 : Int).toNat * 1)).bind fun n9 => bif decide (0 ≤ (n9 : Int)) && decide ((n9 : Int) < x0.len) then (ldI .i64 H x0.blk (x0.off + (n9 : Int).toNat * 1)).bind fun n10 => spec_NarrowPairs.j5 rec k L0 L1 (spec_NarrowPairs.l3 rec k L0 L1 n) x0 x1 x5 x6 x7 x8 x9 n8 n8 x0 x7 x9 x7.blk (x7.off + (x9 : Int).toNat * 1) n9 x0.blk (x0.off + (n9 : Int).toNat * 1) n10 (n8 != n10) (n8 != n10) H else none else none else none else none else spec_NarrowPairs.j6 rec k L0 L1 x0 x1 x5 x6 x7 x8 H
noncomputable def spec_NarrowPairs.l1 (rec : Rec) (k : Nat) (L0 : Sl → Int → Sl → Int → Hp → An) : Nat → Sl → Int → Sl → Int → Sl → Int → Hp → An
  | 0, _, _, _, _, _, _, _ => none
  | n + 1, x0, x1, x5, x6, x7, x8, H => bif decide (x8 < x1) then spec_NarrowPairs.l3 rec k L0 (spec_NarrowPairs.l1 rec k L0 n) k x0 x1 x5 x6 x7 x8 0 H else spec_NarrowPairs.j4 rec k L0 x0 x1 x5 x6 H
noncomputable def spec_NarrowPairs.l0 (rec : Rec) (k : Nat) : Nat → Sl → Int → Sl → Int → Hp → An
  | 0, _, _, _, _, _ => none
  | n + 1, x0, x1, x5, x6, H => bif decide (x6 < (IntKind.i64.wrap (2 * x1))) then (rec spec_LineCells.id [.int .i64 x1, .int .i64 x6] H).bind fun r5 => (r5.1.toS 1).bind fun s6 => spec_NarrowPairs.l1 rec k (spec_NarrowPairs.l0 rec k n) k x0 x1 x5 x6 s6 0 r5.2 else spec_NarrowPairs.j2 rec k x5 H
noncomputable def spec_NarrowPairs.f (rec : Rec) (k : Nat) (a0 : Sl) (a1 : Int) (H : Hp) : An := (rec spec_MasksValid.id [.sl 1 a0, .int .i64 a1] H).bind fun r1 => r1.1.toB.bind fun b2 => bif !b2 then some (.sl 1 (Sl.mk false r1.2.length 0 0), r1.2 ++ [some (Blk.mk false [])]) else (rec spec_l6Copy.id [.sl 1 a0] r1.2).bind fun r3 => (r3.1.toS 1).bind fun s4 => spec_NarrowPairs.l0 rec k k a0 a1 s4 0 r3.2
theorem spec_NarrowPairs.j2_eq (rec : Rec) (k : Nat) : ∀ x5 H, spec_NarrowPairs.j2 rec k x5 H = ex PP (orc spec_NarrowPairs.id) rec k (sub spec_NarrowPairs.body [1, 1, 1, 1]) (St.of 89 [(5, .sl 1 x5)] []) H (kAt PP (orc spec_NarrowPairs.id) rec k spec_NarrowPairs.body [1, 1, 1, 1] [] (K0 PP Go.Proofs.Try.f52)) := by
  intros x5 H
  unfold spec_NarrowPairs.j2
  kernel_rfl
theorem spec_NarrowPairs.j4_eq (rec : Rec) (k : Nat) (n0 : Nat) (L0 : Sl → Int → Sl → Int → Hp → An) (hL0 : ∀ x0 x1 x5 x6 H, L0 x0 x1 x5 x6 H = iter ((orc spec_NarrowPairs.id).at (lbody (sub spec_NarrowPairs.body [1, 1, 1, 0, 1, 0]))) (ex PP (orc spec_NarrowPairs.id) rec k (lbody (sub spec_NarrowPairs.body [1, 1, 1, 0, 1, 0]))) (kAt PP (orc spec_NarrowPairs.id) rec k spec_NarrowPairs.body [1, 1, 1, 0, 1, 0] [] (K0 PP Go.Proofs.Try.f52)) n0 (St.of 89 [(0, .sl 1 x0), (1, .int .i64 x1), (5, .sl 1 x5), (6, .int .i64 x6)] []) H) : ∀ x0 x1 x5 x6 H, spec_NarrowPairs.j4 rec k L0 x0 x1 x5 x6 H = ex PP (orc spec_NarrowPairs.id) rec k (sub spec_NarrowPairs.body [1, 1, 1, 0, 1, 0, 0, 1, 1]) (St.of 89 [(0, .sl 1 x0), (1, .int .i64 x1), (5, .sl 1 x5), (6, .int .i64 x6)] []) H (kAt PP (orc spec_NarrowPairs.id) rec k spec_NarrowPairs.body [1, 1, 1, 0, 1, 0, 0, 1, 1] [n0] (K0 PP Go.Proofs.Try.f52)) := by
  intros x0 x1 x5 x6 H
  unfold spec_NarrowPairs.j4
  try simp only [hL0, -eq_self]
  kernel_rfl
theorem spec_NarrowPairs.j6_eq (rec : Rec) (k : Nat) (n0 : Nat) (L0 : Sl → Int → Sl → Int → Hp → An) (hL0 : ∀ x0 x1 x5 x6 H, L0 x0 x1 x5 x6 H = iter ((orc spec_NarrowPairs.id).at (lbody (sub spec_NarrowPairs.body [1, 1, 1, 0, 1, 0]))) (ex PP (orc spec_NarrowPairs.id) rec k (lbody (sub spec_NarrowPairs.body [1, 1, 1, 0, 1, 0]))) (kAt PP (orc spec_NarrowPairs.id) rec k spec_NarrowPairs.body [1, 1, 1, 0, 1, 0] [] (K0 PP Go.Proofs.Try.f52)) n0 (St.of 89 [(0, .sl 1 x0), (1, .int .i64 x1), (5, .sl 1 x5), (6, .int .i64 x6)] []) H) (n1 : Nat) (L1 : Sl → Int → Sl → Int → Sl → Int → Hp → An) (hL1 : ∀ x0 x1 x5 x6 x7 x8 H, L1 x0 x1 x5 x6 x7 x8 H = iter ((orc spec_NarrowPairs.id).at (lbody (sub spec_NarrowPairs.body [1, 1, 1, 0, 1, 0, 0, 1, 0, 0, 1, 1, 0]))) (ex PP (orc spec_NarrowPairs.id) rec k (lbody (sub spec_NarrowPairs.body [1, 1, 1, 0, 1, 0, 0, 1, 0, 0, 1, 1, 0]))) (kAt PP (orc spec_NarrowPairs.id) rec k spec_NarrowPairs.body [1, 1, 1, 0, 1, 0, 0, 1, 0, 0, 1, 1, 0] [n0] (K0 PP Go.Proofs.Try.f52)) n1 (St.of 89 [(0, .sl 1 x0), (1, .int .i64 x1), (5, .sl 1 x5), (6, .int .i64 x6), (7, .sl 1 x7), (8, .int .i64 x8)] []) H) : ∀ x0 x1 x5 x6 x7 x8 H, spec_NarrowPairs.j6 rec k L0 L1 x0 x1 x5 x6 x7 x8 H = ex PP (orc spec_NarrowPairs.id) rec k (sub spec_NarrowPairs.body [1, 1, 1, 0, 1, 0, 0, 1, 0, 0, 1, 1, 0, 0, 1, 1]) (St.of 89 [(0, .sl 1 x0), (1, .int .i64 x1), (5, .sl 1 x5), (6, .int .i64 x6), (7, .sl 1 x7), (8, .int .i64 x8)] []) H (kAt PP (orc spec_NarrowPairs.id) rec k spec_NarrowPairs.body [1, 1, 1, 0, 1, 0, 0, 1, 0, 0, 1, 1, 0, 0, 1, 1] [n0, n1] (K0 PP Go.Proofs.Try.f52)) := by
  intros x0 x1 x5 x6 x7 x8 H
  unfold spec_NarrowPairs.j6
  try simp only [hL0, hL1, -eq_self]
  kernel_rfl
theorem spec_NarrowPairs.j10_eq (rec : Rec) (k : Nat) (n0 : Nat) (L0 : Sl → Int → Sl → Int → Hp → An) (hL0 : ∀ x0 x1 x5 x6 H, L0 x0 x1 x5 x6 H = iter ((orc spec_NarrowPairs.id).at (lbody (sub spec_NarrowPairs.body [1, 1, 1, 0, 1, 0]))) (ex PP (orc spec_NarrowPairs.id) rec k (lbody (sub spec_NarrowPairs.body [1, 1, 1, 0, 1, 0]))) (kAt PP (orc spec_NarrowPairs.id) rec k spec_NarrowPairs.body [1, 1, 1, 0, 1, 0] [] (K0 PP Go.Proofs.Try.f52)) n0 (St.of 89 [(0, .sl 1 x0), (1, .int .i64 x1), (5, .sl 1 x5), (6, .int .i64 x6)] []) H) (n1 : Nat) (L1 : Sl → Int → Sl → Int → Sl → Int → Hp → An) (hL1 : ∀ x0 x1 x5 x6 x7 x8 H, L1 x0 x1 x5 x6 x7 x8 H = iter ((orc spec_NarrowPairs.id).at (lbody (sub spec_NarrowPairs.body [1, 1, 1, 0, 1, 0, 0, 1, 0, 0, 1, 1, 0]))) (ex PP (orc spec_NarrowPairs.id) rec k (lbody (sub spec_NarrowPairs.body [1, 1, 1, 0, 1, 0, 0, 1, 0, 0, 1, 1, 0]))) (kAt PP (orc spec_NarrowPairs.id) rec k spec_NarrowPairs.body [1, 1, 1, 0, 1, 0, 0, 1, 0, 0, 1, 1, 0] [n0] (K0 PP Go.Proofs.Try.f52)) n1 (St.of 89 [(0, .sl 1 x0), (1, .int .i64 x1), (5, .sl 1 x5), (6, .int .i64 x6), (7, .sl 1 x7), (8, .int .i64 x8)] []) H) (n3 : Nat) (L3 : Sl → Int → Sl → Int → Sl → Int → Int → Hp → An) (hL3 : ∀ x0 x1 x5 x6 x7 x8 x9 H, L3 x0 x1 x5 x6 x7 x8 x9 H = iter ((orc spec_NarrowPairs.id).at (lbody (sub spec_NarrowPairs.body [1, 1, 1, 0, 1, 0, 0, 1, 0, 0, 1, 1, 0, 0, 1, 0, 0, 1, 0]))) (ex PP (orc spec_NarrowPairs.id) rec k (lbody (sub spec_NarrowPairs.body [1, 1, 1, 0, 1, 0, 0, 1, 0, 0, 1, 1, 0, 0, 1, 0, 0, 1, 0]))) (kAt PP (orc spec_NarrowPairs.id) rec k spec_NarrowPairs.body [1, 1, 1, 0, 1, 0, 0, 1, 0, 0, 1, 1, 0, 0, 1, 0, 0, 1, 0] [n0, n1] (K0 PP Go.Proofs.Try.f52)) n3 (St.of 89 [(0, .sl 1 x0), (1, .int .i64 x1), (5, .sl 1 x5), (6, .int .i64 x6), (7, .sl 1 x7), (8, .int .i64 x8), (9, .int .i64 x9)] []) H) : ∀ x0 x1 x5 x6 x7 x8 x9 H, spec_NarrowPairs.j10 rec k L0 L1 L3 x0 x1 x5 x6 x7 x8 x9 H = ex PP (orc spec_NarrowPairs.id) rec k (sub spec_NarrowPairs.body [1, 1, 1, 0, 1, 0, 0, 1, 0, 0, 1, 1, 0, 0, 1, 0, 0, 1, 0, 0, 1, 1]) (St.of 89 [(0, .sl 1 x0), (1, .int .i64 x1), (5, .sl 1 x5), (6, .int .i64 x6), (7, .sl 1 x7), (8, .int .i64 x8), (9, .int .i64 x9)] []) H (kAt PP (orc spec_NarrowPairs.id) rec k spec_NarrowPairs.body [1, 1, 1, 0, 1, 0, 0, 1, 0, 0, 1, 1, 0, 0, 1, 0, 0, 1, 0, 0, 1, 1] [n0, n1, n3] (K0 PP Go.Proofs.Try.f52)) := by
  intros x0 x1 x5 x6 x7 x8 x9 H
  unfold spec_NarrowPairs.j10
  try simp only [hL0, hL1, hL3, -eq_self]
  kernel_rfl
theorem spec_NarrowPairs.j17_eq (rec : Rec) (k : Nat) (n0 : Nat) (L0 : Sl → Int → Sl → Int → Hp → An) (hL0 : ∀ x0 x1 x5 x6 H, L0 x0 x1 x5 x6 H = iter ((orc spec_NarrowPairs.id).at (lbody (sub spec_NarrowPairs.body [1, 1, 1, 0, 1, 0]))) (ex PP (orc spec_NarrowPairs.id) rec k (lbody (sub spec_NarrowPairs.body [1, 1, 1, 0, 1, 0]))) (kAt PP (orc spec_NarrowPairs.id) rec k spec_NarrowPairs.body [1, 1, 1, 0, 1, 0] [] (K0 PP Go.Proofs.Try.f52)) n0 (St.of 89 [(0, .sl 1 x0), (1, .int .i64 x1), (5, .sl 1 x5), (6, .int .i64 x6)] []) H) (n1 : Nat) (L1 : Sl → Int → Sl → Int → Sl → Int → Hp → An) (hL1 : ∀ x0 x1 x5 x6 x7 x8 H, L1 x0 x1 x5 x6 x7 x8 H = iter ((orc spec_NarrowPairs.id).at (lbody (sub spec_NarrowPairs.body [1, 1, 1, 0, 1, 0, 0, 1, 0, 0, 1, 1, 0]))) (ex PP (orc spec_NarrowPairs.id) rec k (lbody (sub spec_NarrowPairs.body [1, 1, 1, 0, 1, 0, 0, 1, 0, 0, 1, 1, 0]))) (kAt PP (orc spec_NarrowPairs.id) rec k spec_NarrowPairs.body [1, 1, 1, 0, 1, 0, 0, 1, 0, 0, 1, 1, 0] [n0] (K0 PP Go.Proofs.Try.f52)) n1 (St.of 89 [(0, .sl 1 x0), (1, .int .i64 x1), (5, .sl 1 x5), (6, .int .i64 x6), (7, .sl 1 x7), (8, .int .i64 x8)] []) H) (n3 : Nat) (L3 : Sl → Int → Sl → Int → Sl → Int → Int → Hp → An) (hL3 : ∀ x0 x1 x5 x6 x7 x8 x9 H, L3 x0 x1 x5 x6 x7 x8 x9 H = iter ((orc spec_NarrowPairs.id).at (lbody (sub spec_NarrowPairs.body [1, 1, 1, 0, 1, 0, 0, 1, 0, 0, 1, 1, 0, 0, 1, 0, 0, 1, 0]))) (ex PP (orc spec_NarrowPairs.id) rec k (lbody (sub spec_NarrowPairs.body [1, 1, 1, 0, 1, 0, 0, 1, 0, 0, 1, 1, 0, 0, 1, 0, 0, 1, 0]))) (kAt PP (orc spec_NarrowPairs.id) rec k spec_NarrowPairs.body [1, 1, 1, 0, 1, 0, 0, 1, 0, 0, 1, 1, 0, 0, 1, 0, 0, 1, 0] [n0, n1] (K0 PP Go.Proofs.Try.f52)) n3 (St.of 89 [(0, .sl 1 x0), (1, .int .i64 x1), (5, .sl 1 x5), (6, .int .i64 x6), (7, .sl 1 x7), (8, .int .i64 x8), (9, .int .i64 x9)] []) H) (n12 : Nat) (L12 : Sl → Int → Sl → Int → Sl → Int → Int → Int → Int → Hp → An) (hL12 : ∀ x0 x1 x5 x6 x7 x8 x9 x10 x11 H, L12 x0 x1 x5 x6 x7 x8 x9 x10 x11 H = iter ((orc spec_NarrowPairs.id).at (lbody (sub spec_NarrowPairs.body [1, 1, 1, 0, 1, 0, 0, 1, 0, 0, 1, 1, 0, 0, 1, 0, 0, 1, 0, 0, 1, 0, 0, 1, 1, 1, 0]))) (ex PP (orc spec_NarrowPairs.id) rec k (lbody (sub spec_NarrowPairs.body [1, 1, 1, 0, 1, 0, 0, 1, 0, 0, 1, 1, 0, 0, 1, 0, 0, 1, 0, 0, 1, 0, 0, 1, 1, 1, 0]))) (kAt PP (orc spec_NarrowPairs.id) rec k spec_NarrowPairs.body [1, 1, 1, 0, 1, 0, 0, 1, 0, 0, 1, 1, 0, 0, 1, 0, 0, 1, 0, 0, 1, 0, 0, 1, 1, 1, 0] [n0, n1, n3] (K0 PP Go.Proofs.Try.f52)) n12 (St.of 89 [(0, .sl 1 x0), (1, .int .i64 x1), (5, .sl 1 x5), (6, .int .i64 x6), (7, .sl 1 x7), (8, .int .i64 x8), (9, .int .i64 x9), (10, .int .i64 x10), (11, .int .i64 x11)] []) H) : ∀ x0 x1 x5 x6 x7 x8 x9 x10 x11 H, spec_NarrowPairs.j17 rec k L0 L1 L3 L12 x0 x1 x5 x6 x7 x8 x9 x10 x11 H = ex PP (orc spec_NarrowPairs.id) rec k (sub spec_NarrowPairs.body [1, 1, 1, 0, 1, 0, 0, 1, 0, 0, 1, 1, 0, 0, 1, 0, 0, 1, 0, 0, 1, 0, 0, 1, 1, 1, 0, 0, 1, 1]) (St.of 89 [(0, .sl 1 x0), (1, .int .i64 x1), (5, .sl 1 x5), (6, .int .i64 x6), (7, .sl 1 x7), (8, .int .i64 x8), (9, .int .i64 x9), (10, .int .i64 x10), (11, .int .i64 x11)] []) H (kAt PP (orc spec_NarrowPairs.id) rec k spec_NarrowPairs.body [1, 1, 1, 0, 1, 0, 0, 1, 0, 0, 1, 1, 0, 0, 1, 0, 0, 1, 0, 0, 1, 0, 0, 1, 1, 1, 0, 0, 1, 1] [n0, n1, n3, n12] (K0 PP Go.Proofs.Try.f52)) := by
  intros x0 x1 x5 x6 x7 x8 x9 x10 x11 H
  unfold spec_NarrowPairs.j17
  try simp only [hL0, hL1, hL3, hL12, -eq_self]
  kernel_rfl
theorem spec_NarrowPairs.j16_eq (rec : Rec) (k : Nat) (n0 : Nat) (L0 : Sl → Int → Sl → Int → Hp → An) (hL0 : ∀ x0 x1 x5 x6 H, L0 x0 x1 x5 x6 H = iter ((orc spec_NarrowPairs.id).at (lbody (sub spec_NarrowPairs.body [1, 1, 1, 0, 1, 0]))) (ex PP (orc spec_NarrowPairs.id) rec k (lbody (sub spec_NarrowPairs.body [1, 1, 1, 0, 1, 0]))) (kAt PP (orc spec_NarrowPairs.id) rec k spec_NarrowPairs.body [1, 1, 1, 0, 1, 0] [] (K0 PP Go.Proofs.Try.f52)) n0 (St.of 89 [(0, .sl 1 x0), (1, .int .i64 x1), (5, .sl 1 x5), (6, .int .i64 x6)] []) H) (n1 : Nat) (L1 : Sl → Int → Sl → Int → Sl → Int → Hp → An) (hL1 : ∀ x0 x1 x5 x6 x7 x8 H, L1 x0 x1 x5 x6 x7 x8 H = iter ((orc spec_NarrowPairs.id).at (lbody (sub spec_NarrowPairs.body [1, 1, 1, 0, 1, 0, 0, 1, 0, 0, 1, 1, 0]))) (ex PP (orc spec_NarrowPairs.id) rec k (lbody (sub spec_NarrowPairs.body [1, 1, 1, 0, 1, 0, 0, 1, 0, 0, 1, 1, 0]))) (kAt PP (orc spec_NarrowPairs.id) rec k spec_NarrowPairs.body [1, 1, 1, 0, 1, 0, 0, 1, 0, 0, 1, 1, 0] [n0] (K0 PP Go.Proofs.Try.f52)) n1 (St.of 89 [(0, .sl 1 x0), (1, .int .i64 x1), (5, .sl 1 x5), (6, .int .i64 x6), (7, .sl 1 x7), (8, .int .i64 x8)] []) H) (n3 : Nat) (L3 : Sl → Int → Sl → Int → Sl → Int → Int → Hp → An) (hL3 : ∀ x0 x1 x5 x6 x7 x8 x9 H, L3 x0 x1 x5 x6 x7 x8 x9 H = iter ((orc spec_NarrowPairs.id).at (lbody (sub spec_NarrowPairs.body [1, 1, 1, 0, 1, 0, 0, 1, 0, 0, 1, 1, 0, 0, 1, 0, 0, 1, 0]))) (ex PP (orc spec_NarrowPairs.id) rec k (lbody (sub spec_NarrowPairs.body [1, 1, 1, 0, 1, 0, 0, 1, 0, 0, 1, 1, 0, 0, 1, 0, 0, 1, 0]))) (kAt PP (orc spec_NarrowPairs.id) rec k spec_NarrowPairs.body [1, 1, 1, 0, 1, 0, 0, 1, 0, 0, 1, 1, 0, 0, 1, 0, 0, 1, 0] [n0, n1] (K0 PP Go.Proofs.Try.f52)) n3 (St.of 89 [(0, .sl 1 x0), (1, .int .i64 x1), (5, .sl 1 x5), (6, .int .i64 x6), (7, .sl 1 x7), (8, .int .i64 x8), (9, .int .i64 x9)] []) H) (n12 : Nat) (L12 : Sl → Int → Sl → Int → Sl → Int → Int → Int → Int → Hp → An) (hL12 : ∀ x0 x1 x5 x6 x7 x8 x9 x10 x11 H, L12 x0 x1 x5 x6 x7 x8 x9 x10 x11 H = iter ((orc spec_NarrowPairs.id).at (lbody (sub spec_NarrowPairs.body [1, 1, 1, 0, 1, 0, 0, 1, 0, 0, 1, 1, 0, 0, 1, 0, 0, 1, 0, 0, 1, 0, 0, 1, 1, 1, 0]))) (ex PP (orc spec_NarrowPairs.id) rec k (lbody (sub spec_NarrowPairs.body [1, 1, 1, 0, 1, 0, 0, 1, 0, 0, 1, 1, 0, 0, 1, 0, 0, 1, 0, 0, 1, 0, 0, 1, 1, 1, 0]))) (kAt PP (orc spec_NarrowPairs.id) rec k spec_NarrowPairs.body [1, 1, 1, 0, 1, 0, 0, 1, 0, 0, 1, 1, 0, 0, 1, 0, 0, 1, 0, 0, 1, 0, 0, 1, 1, 1, 0] [n0, n1, n3] (K0 PP Go.Proofs.Try.f52)) n12 (St.of 89 [(0, .sl 1 x0), (1, .int .i64 x1), (5, .sl 1 x5), (6, .int .i64 x6), (7, .sl 1 x7), (8, .int .i64 x8), (9, .int .i64 x9), (10, .int .i64 x10), (11, .int .i64 x11)] []) H) : ∀ x0 x1 x5 x6 x7 x8 x9 x10 x11 x72 H, spec_NarrowPairs.j16 rec k L0 L1 L3 L12 x0 x1 x5 x6 x7 x8 x9 x10 x11 x72 H = ex PP (orc spec_NarrowPairs.id) rec k (sub spec_NarrowPairs.body [1, 1, 1, 0, 1, 0, 0, 1, 0, 0, 1, 1, 0, 0, 1, 0, 0, 1, 0, 0, 1, 0, 0, 1, 1, 1, 0, 0, 1, 0, 0, 1]) (St.of 89 [(0, .sl 1 x0), (1, .int .i64 x1), (5, .sl 1 x5), (6, .int .i64 x6), (7, .sl 1 x7), (8, .int .i64 x8), (9, .int .i64 x9), (10, .int .i64 x10), (11, .int .i64 x11), (72, .bool x72)] []) H (kAt PP (orc spec_NarrowPairs.id) rec k spec_NarrowPairs.body [1, 1, 1, 0, 1, 0, 0, 1, 0, 0, 1, 1, 0, 0, 1, 0, 0, 1, 0, 0, 1, 0, 0, 1, 1, 1, 0, 0, 1, 0, 0, 1] [n0, n1, n3, n12] (K0 PP Go.Proofs.Try.f52)) := by
  intros x0 x1 x5 x6 x7 x8 x9 x10 x11 x72 H
  unfold spec_NarrowPairs.j16
  try simp only [hL0, hL1, hL3, hL12, spec_NarrowPairs.j17_eq rec k n0 L0 hL0 n1 L1 hL1 n3 L3 hL3 n12 L12 hL12, -eq_self]
  kernel_rfl
theorem spec_NarrowPairs.j14_eq (rec : Rec) (k : Nat) (n0 : Nat) (L0 : Sl → Int → Sl → Int → Hp → An) (hL0 : ∀ x0 x1 x5 x6 H, L0 x0 x1 x5 x6 H = iter ((orc spec_NarrowPairs.id).at (lbody (sub spec_NarrowPairs.body [1, 1, 1, 0, 1, 0]))) (ex PP (orc spec_NarrowPairs.id) rec k (lbody (sub spec_NarrowPairs.body [1, 1, 1, 0, 1, 0]))) (kAt PP (orc spec_NarrowPairs.id) rec k spec_NarrowPairs.body [1, 1, 1, 0, 1, 0] [] (K0 PP Go.Proofs.Try.f52)) n0 (St.of 89 [(0, .sl 1 x0), (1, .int .i64 x1), (5, .sl 1 x5), (6, .int .i64 x6)] []) H) (n1 : Nat) (L1 : Sl → Int → Sl → Int → Sl → Int → Hp → An) (hL1 : ∀ x0 x1 x5 x6 x7 x8 H, L1 x0 x1 x5 x6 x7 x8 H = iter ((orc spec_NarrowPairs.id).at (lbody (sub spec_NarrowPairs.body [1, 1, 1, 0, 1, 0, 0, 1, 0, 0, 1, 1, 0]))) (ex PP (orc spec_NarrowPairs.id) rec k (lbody (sub spec_NarrowPairs.body [1, 1, 1, 0, 1, 0, 0, 1, 0, 0, 1, 1, 0]))) (kAt PP (orc spec_NarrowPairs.id) rec k spec_NarrowPairs.body [1, 1, 1, 0, 1, 0, 0, 1, 0, 0, 1, 1, 0] [n0] (K0 PP Go.Proofs.Try.f52)) n1 (St.of 89 [(0, .sl 1 x0), (1, .int .i64 x1), (5, .sl 1 x5), (6, .int .i64 x6), (7, .sl 1 x7), (8, .int .i64 x8)] []) H) (n3 : Nat) (L3 : Sl → Int → Sl → Int → Sl → Int → Int → Hp → An) (hL3 : ∀ x0 x1 x5 x6 x7 x8 x9 H, L3 x0 x1 x5 x6 x7 x8 x9 H = iter ((orc spec_NarrowPairs.id).at (lbody (sub spec_NarrowPairs.body [1, 1, 1, 0, 1, 0, 0, 1, 0, 0, 1, 1, 0, 0, 1, 0, 0, 1, 0]))) (ex PP (orc spec_NarrowPairs.id) rec k (lbody (sub spec_NarrowPairs.body [1, 1, 1, 0, 1, 0, 0, 1, 0, 0, 1, 1, 0, 0, 1, 0, 0, 1, 0]))) (kAt PP (orc spec_NarrowPairs.id) rec k spec_NarrowPairs.body [1, 1, 1, 0, 1, 0, 0, 1, 0, 0, 1, 1, 0, 0, 1, 0, 0, 1, 0] [n0, n1] (K0 PP Go.Proofs.Try.f52)) n3 (St.of 89 [(0, .sl 1 x0), (1, .int .i64 x1), (5, .sl 1 x5), (6, .int .i64 x6), (7, .sl 1 x7), (8, .int .i64 x8), (9, .int .i64 x9)] []) H) (n12 : Nat) (L12 : Sl → Int → Sl → Int → Sl → Int → Int → Int → Int → Hp → An) (hL12 : ∀ x0 x1 x5 x6 x7 x8 x9 x10 x11 H, L12 x0 x1 x5 x6 x7 x8 x9 x10 x11 H = iter ((orc spec_NarrowPairs.id).at (lbody (sub spec_NarrowPairs.body [1, 1, 1, 0, 1, 0, 0, 1, 0, 0, 1, 1, 0, 0, 1, 0, 0, 1, 0, 0, 1, 0, 0, 1, 1, 1, 0]))) (ex PP (orc spec_NarrowPairs.id) rec k (lbody (sub spec_NarrowPairs.body [1, 1, 1, 0, 1, 0, 0, 1, 0, 0, 1, 1, 0, 0, 1, 0, 0, 1, 0, 0, 1, 0, 0, 1, 1, 1, 0]))) (kAt PP (orc spec_NarrowPairs.id) rec k spec_NarrowPairs.body [1, 1, 1, 0, 1, 0, 0, 1, 0, 0, 1, 1, 0, 0, 1, 0, 0, 1, 0, 0, 1, 0, 0, 1, 1, 1, 0] [n0, n1, n3] (K0 PP Go.Proofs.Try.f52)) n12 (St.of 89 [(0, .sl 1 x0), (1, .int .i64 x1), (5, .sl 1 x5), (6, .int .i64 x6), (7, .sl 1 x7), (8, .int .i64 x8), (9, .int .i64 x9), (10, .int .i64 x10), (11, .int .i64 x11)] []) H) : ∀ x0 x1 x5 x6 x7 x8 x9 x10 x11 x65 x66 x67 x68 x69 x70 x71 x72 H, spec_NarrowPairs.j14 rec k L0 L1 L3 L12 x0 x1 x5 x6 x7 x8 x9 x10 x11 x65 x66 x67 x68 x69 x70 x71 x72 H = (kAt PP (orc spec_NarrowPairs.id) rec k spec_NarrowPairs.body [1, 1, 1, 0, 1, 0, 0, 1, 0, 0, 1, 1, 0, 0, 1, 0, 0, 1, 0, 0, 1, 0, 0, 1, 1, 1, 0, 0, 1, 0, 0, 0] [n0, n1, n3, n12] (K0 PP Go.Proofs.Try.f52)) .normal (St.of 89 [(0, .sl 1 x0), (1, .int .i64 x1), (5, .sl 1 x5), (6, .int .i64 x6), (7, .sl 1 x7), (8, .int .i64 x8), (9, .int .i64 x9), (10, .int .i64 x10), (11, .int .i64 x11), (65, .int .i64 x65), (66, .int .i64 x66), (67, .bool x67), (68, .bool x68), (69, .int .i64 x69), (70, .int .i64 x70), (71, .bool x71), (72, .bool x72)] []) H := by
  intros x0 x1 x5 x6 x7 x8 x9 x10 x11 x65 x66 x67 x68 x69 x70 x71 x72 H
  unfold spec_NarrowPairs.j14
  try simp only [hL0, hL1, hL3, hL12, spec_NarrowPairs.j16_eq rec k n0 L0 hL0 n1 L1 hL1 n3 L3 hL3 n12 L12 hL12, -eq_self]
  kernel_rfl
theorem spec_NarrowPairs.j15_eq (rec : Rec) (k : Nat) (n0 : Nat) (L0 : Sl → Int → Sl → Int → Hp → An) (hL0 : ∀ x0 x1 x5 x6 H, L0 x0 x1 x5 x6 H = iter ((orc spec_NarrowPairs.id).at (lbody (sub spec_NarrowPairs.body [1, 1, 1, 0, 1, 0]))) (ex PP (orc spec_NarrowPairs.id) rec k (lbody (sub spec_NarrowPairs.body [1, 1, 1, 0, 1, 0]))) (kAt PP (orc spec_NarrowPairs.id) rec k spec_NarrowPairs.body [1, 1, 1, 0, 1, 0] [] (K0 PP Go.Proofs.Try.f52)) n0 (St.of 89 [(0, .sl 1 x0), (1, .int .i64 x1), (5, .sl 1 x5), (6, .int .i64 x6)] []) H) (n1 : Nat) (L1 : Sl → Int → Sl → Int → Sl → Int → Hp → An) (hL1 : ∀ x0 x1 x5 x6 x7 x8 H, L1 x0 x1 x5 x6 x7 x8 H = iter ((orc spec_NarrowPairs.id).at (lbody (sub spec_NarrowPairs.body [1, 1, 1, 0, 1, 0, 0, 1, 0, 0, 1, 1, 0]))) (ex PP (orc spec_NarrowPairs.id) rec k (lbody (sub spec_NarrowPairs.body [1, 1, 1, 0, 1, 0, 0, 1, 0, 0, 1, 1, 0]))) (kAt PP (orc spec_NarrowPairs.id) rec k spec_NarrowPairs.body [1, 1, 1, 0, 1, 0, 0, 1, 0, 0, 1, 1, 0] [n0] (K0 PP Go.Proofs.Try.f52)) n1 (St.of 89 [(0, .sl 1 x0), (1, .int .i64 x1), (5, .sl 1 x5), (6, .int .i64 x6), (7, .sl 1 x7), (8, .int .i64 x8)] []) H) (n3 : Nat) (L3 : Sl → Int → Sl → Int → Sl → Int → Int → Hp → An) (hL3 : ∀ x0 x1 x5 x6 x7 x8 x9 H, L3 x0 x1 x5 x6 x7 x8 x9 H = iter ((orc spec_NarrowPairs.id).at (lbody (sub spec_NarrowPairs.body [1, 1, 1, 0, 1, 0, 0, 1, 0, 0, 1, 1, 0, 0, 1, 0, 0, 1, 0]))) (ex PP (orc spec_NarrowPairs.id) rec k (lbody (sub spec_NarrowPairs.body [1, 1, 1, 0, 1, 0, 0, 1, 0, 0, 1, 1, 0, 0, 1, 0, 0, 1, 0]))) (kAt PP (orc spec_NarrowPairs.id) rec k spec_NarrowPairs.body [1, 1, 1, 0, 1, 0, 0, 1, 0, 0, 1, 1, 0, 0, 1, 0, 0, 1, 0] [n0, n1] (K0 PP Go.Proofs.Try.f52)) n3 (St.of 89 [(0, .sl 1 x0), (1, .int .i64 x1), (5, .sl 1 x5), (6, .int .i64 x6), (7, .sl 1 x7), (8, .int .i64 x8), (9, .int .i64 x9)] []) H) (n12 : Nat) (L12 : Sl → Int → Sl → Int → Sl → Int → Int → Int → Int → Hp → An) (hL12 : ∀ x0 x1 x5 x6 x7 x8 x9 x10 x11 H, L12 x0 x1 x5 x6 x7 x8 x9 x10 x11 H = iter ((orc spec_NarrowPairs.id).at (lbody (sub spec_NarrowPairs.body [1, 1, 1, 0, 1, 0, 0, 1, 0, 0, 1, 1, 0, 0, 1, 0, 0, 1, 0, 0, 1, 0, 0, 1, 1, 1, 0]))) (ex PP (orc spec_NarrowPairs.id) rec k (lbody (sub spec_NarrowPairs.body [1, 1, 1, 0, 1, 0, 0, 1, 0, 0, 1, 1, 0, 0, 1, 0, 0, 1, 0, 0, 1, 0, 0, 1, 1, 1, 0]))) (kAt PP (orc spec_NarrowPairs.id) rec k spec_NarrowPairs.body [1, 1, 1, 0, 1, 0, 0, 1, 0, 0, 1, 1, 0, 0, 1, 0, 0, 1, 0, 0, 1, 0, 0, 1, 1, 1, 0] [n0, n1, n3] (K0 PP Go.Proofs.Try.f52)) n12 (St.of 89 [(0, .sl 1 x0), (1, .int .i64 x1), (5, .sl 1 x5), (6, .int .i64 x6), (7, .sl 1 x7), (8, .int .i64 x8), (9, .int .i64 x9), (10, .int .i64 x10), (11, .int .i64 x11)] []) H) : ∀ x0 x1 x5 x6 x7 x8 x9 x10 x11 x65 x66 x67 x68 x72 H, spec_NarrowPairs.j15 rec k L0 L1 L3 L12 x0 x1 x5 x6 x7 x8 x9 x10 x11 x65 x66 x67 x68 x72 H = (kAt PP (orc spec_NarrowPairs.id) rec k spec_NarrowPairs.body [1, 1, 1, 0, 1, 0, 0, 1, 0, 0, 1, 1, 0, 0, 1, 0, 0, 1, 0, 0, 1, 0, 0, 1, 1, 1, 0, 0, 1, 0, 0, 0] [n0, n1, n3, n12] (K0 PP Go.Proofs.Try.f52)) .normal (St.of 89 [(0, .sl 1 x0), (1, .int .i64 x1), (5, .sl 1 x5), (6, .int .i64 x6), (7, .sl 1 x7), (8, .int .i64 x8), (9, .int .i64 x9), (10, .int .i64 x10), (11, .int .i64 x11), (65, .int .i64 x65), (66, .int .i64 x66), (67, .bool x67), (68, .bool x68), (69, .tup []), (70, .tup []), (71, .tup []), (72, .bool x72)] []) H := by
  intros x0 x1 x5 x6 x7 x8 x9 x10 x11 x65 x66 x67 x68 x72 H
  unfold spec_NarrowPairs.j15
  try simp only [hL0, hL1, hL3, hL12, spec_NarrowPairs.j16_eq rec k n0 L0 hL0 n1 L1 hL1 n3 L3 hL3 n12 L12 hL12, -eq_self]
  kernel_rfl
theorem spec_NarrowPairs.j13_run (rec : Rec) (K : St → Hp → An) : ∀ (x0 : Sl) (x1 : Int) (x5 : Sl) (x6 : Int) (x7 : Sl) (x8 : Int) (x9 : Int) (x10 : Int) (x11 : Int) (x65 : Int) (x66 : Int) (x67 : Bool) (x68 : Bool) H, exOps PP (orc spec_NarrowPairs.id) rec (rops (sub spec_NarrowPairs.body [1, 1, 1, 0, 1, 0, 0, 1, 0, 0, 1, 1, 0, 0, 1, 0, 0, 1, 0, 0, 1, 0, 0, 1, 1, 1, 0, 0, 1, 0, 0, 0])) ((rops (sub spec_NarrowPairs.body [1, 1, 1, 0, 1, 0, 0, 1, 0, 0, 1, 1, 0, 0, 1, 0, 0, 1, 0, 0, 1, 0, 0, 1, 1, 1, 0, 0, 1, 0, 0, 0])).toList.drop 4) (St.of 89 [(0, .sl 1 x0), (1, .int .i64 x1), (5, .sl 1 x5), (6, .int .i64 x6), (7, .sl 1 x7), (8, .int .i64 x8), (9, .int .i64 x9), (10, .int .i64 x10), (11, .int .i64 x11), (65, .int .i64 x65), (66, .int .i64 x66), (67, .bool x67), (68, .bool x68)] []) H K = bif x68 then K (St.of 89 [(0, .sl 1 x0), (1, .int .i64 x1), (5, .sl 1 x5), (6, .int .i64 x6), (7, .sl 1 x7), (8, .int .i64 x8), (9, .int .i64 x9), (10, .int .i64 x10), (11, .int .i64 x11), (65, .int .i64 x65), (66, .int .i64 x66), (67, .bool x67), (68, .bool true), (69, .int .i64 x11), (70, .int .i64 x9), (71, .bool (x11 != x9)), (72, .bool (x11 != x9))] []) H else K (St.of 89 [(0, .sl 1 x0), (1, .int .i64 x1), (5, .sl 1 x5), (6, .int .i64 x6), (7, .sl 1 x7), (8, .int .i64 x8), (9, .int .i64 x9), (10, .int .i64 x10), (11, .int .i64 x11), (65, .int .i64 x65), (66, .int .i64 x66), (67, .bool x67), (68, .bool false), (69, .tup []), (70, .tup []), (71, .tup []), (72, .bool false)] []) H := by
  intros x0 x1 x5 x6 x7 x8 x9 x10 x11 x65 x66 x67 x68 H
  cases x68 <;> kernel_rfl
theorem spec_NarrowPairs.j13_eq (rec : Rec) (k : Nat) (n0 : Nat) (L0 : Sl → Int → Sl → Int → Hp → An) (hL0 : ∀ x0 x1 x5 x6 H, L0 x0 x1 x5 x6 H = iter ((orc spec_NarrowPairs.id).at (lbody (sub spec_NarrowPairs.body [1, 1, 1, 0, 1, 0]))) (ex PP (orc spec_NarrowPairs.id) rec k (lbody (sub spec_NarrowPairs.body [1, 1, 1, 0, 1, 0]))) (kAt PP (orc spec_NarrowPairs.id) rec k spec_NarrowPairs.body [1, 1, 1, 0, 1, 0] [] (K0 PP Go.Proofs.Try.f52)) n0 (St.of 89 [(0, .sl 1 x0), (1, .int .i64 x1), (5, .sl 1 x5), (6, .int .i64 x6)] []) H) (n1 : Nat) (L1 : Sl → Int → Sl → Int → Sl → Int → Hp → An) (hL1 : ∀ x0 x1 x5 x6 x7 x8 H, L1 x0 x1 x5 x6 x7 x8 H = iter ((orc spec_NarrowPairs.id).at (lbody (sub spec_NarrowPairs.body [1, 1, 1, 0, 1, 0, 0, 1, 0, 0, 1, 1, 0]))) (ex PP (orc spec_NarrowPairs.id) rec k (lbody (sub spec_NarrowPairs.body [1, 1, 1, 0, 1, 0, 0, 1, 0, 0, 1, 1, 0]))) (kAt PP (orc spec_NarrowPairs.id) rec k spec_NarrowPairs.body [1, 1, 1, 0, 1, 0, 0, 1, 0, 0, 1, 1, 0] [n0] (K0 PP Go.Proofs.Try.f52)) n1 (St.of 89 [(0, .sl 1 x0), (1, .int .i64 x1), (5, .sl 1 x5), (6, .int .i64 x6), (7, .sl 1 x7), (8, .int .i64 x8)] []) H) (n3 : Nat) (L3 : Sl → Int → Sl → Int → Sl → Int → Int → Hp → An) (hL3 : ∀ x0 x1 x5 x6 x7 x8 x9 H, L3 x0 x1 x5 x6 x7 x8 x9 H = iter ((orc spec_NarrowPairs.id).at (lbody (sub spec_NarrowPairs.body [1, 1, 1, 0, 1, 0, 0, 1, 0, 0, 1, 1, 0, 0, 1, 0, 0, 1, 0]))) (ex PP (orc spec_NarrowPairs.id) rec k (lbody (sub spec_NarrowPairs.body [1, 1, 1, 0, 1, 0, 0, 1, 0, 0, 1, 1, 0, 0, 1, 0, 0, 1, 0]))) (kAt PP (orc spec_NarrowPairs.id) rec k spec_NarrowPairs.body [1, 1, 1, 0, 1, 0, 0, 1, 0, 0, 1, 1, 0, 0, 1, 0, 0, 1, 0] [n0, n1] (K0 PP Go.Proofs.Try.f52)) n3 (St.of 89 [(0, .sl 1 x0), (1, .int .i64 x1), (5, .sl 1 x5), (6, .int .i64 x6), (7, .sl 1 x7), (8, .int .i64 x8), (9, .int .i64 x9)] []) H) (n12 : Nat) (L12 : Sl → Int → Sl → Int → Sl → Int → Int → Int → Int → Hp → An) (hL12 : ∀ x0 x1 x5 x6 x7 x8 x9 x10 x11 H, L12 x0 x1 x5 x6 x7 x8 x9 x10 x11 H = iter ((orc spec_NarrowPairs.id).at (lbody (sub spec_NarrowPairs.body [1, 1, 1, 0, 1, 0, 0, 1, 0, 0, 1, 1, 0, 0, 1, 0, 0, 1, 0, 0, 1, 0, 0, 1, 1, 1, 0]))) (ex PP (orc spec_NarrowPairs.id) rec k (lbody (sub spec_NarrowPairs.body [1, 1, 1, 0, 1, 0, 0, 1, 0, 0, 1, 1, 0, 0, 1, 0, 0, 1, 0, 0, 1, 0, 0, 1, 1, 1, 0]))) (kAt PP (orc spec_NarrowPairs.id) rec k spec_NarrowPairs.body [1, 1, 1, 0, 1, 0, 0, 1, 0, 0, 1, 1, 0, 0, 1, 0, 0, 1, 0, 0, 1, 0, 0, 1, 1, 1, 0] [n0, n1, n3] (K0 PP Go.Proofs.Try.f52)) n12 (St.of 89 [(0, .sl 1 x0), (1, .int .i64 x1), (5, .sl 1 x5), (6, .int .i64 x6), (7, .sl 1 x7), (8, .int .i64 x8), (9, .int .i64 x9), (10, .int .i64 x10), (11, .int .i64 x11)] []) H) : ∀ x0 x1 x5 x6 x7 x8 x9 x10 x11 x65 x66 x67 x68 H, spec_NarrowPairs.j13 rec k L0 L1 L3 L12 x0 x1 x5 x6 x7 x8 x9 x10 x11 x65 x66 x67 x68 H = exOps PP (orc spec_NarrowPairs.id) rec (rops (sub spec_NarrowPairs.body [1, 1, 1, 0, 1, 0, 0, 1, 0, 0, 1, 1, 0, 0, 1, 0, 0, 1, 0, 0, 1, 0, 0, 1, 1, 1, 0, 0, 1, 0, 0, 0])) ((rops (sub spec_NarrowPairs.body [1, 1, 1, 0, 1, 0, 0, 1, 0, 0, 1, 1, 0, 0, 1, 0, 0, 1, 0, 0, 1, 0, 0, 1, 1, 1, 0, 0, 1, 0, 0, 0])).toList.drop 4) (St.of 89 [(0, .sl 1 x0), (1, .int .i64 x1), (5, .sl 1 x5), (6, .int .i64 x6), (7, .sl 1 x7), (8, .int .i64 x8), (9, .int .i64 x9), (10, .int .i64 x10), (11, .int .i64 x11), (65, .int .i64 x65), (66, .int .i64 x66), (67, .bool x67), (68, .bool x68)] []) H (fun s H => (kAt PP (orc spec_NarrowPairs.id) rec k spec_NarrowPairs.body [1, 1, 1, 0, 1, 0, 0, 1, 0, 0, 1, 1, 0, 0, 1, 0, 0, 1, 0, 0, 1, 0, 0, 1, 1, 1, 0, 0, 1, 0, 0, 0] [n0, n1, n3, n12] (K0 PP Go.Proofs.Try.f52)) .normal s H) := by
  intros x0 x1 x5 x6 x7 x8 x9 x10 x11 x65 x66 x67 x68 H
  unfold spec_NarrowPairs.j13
  try simp only [hL0, hL1, hL3, hL12, spec_NarrowPairs.j14_eq rec k n0 L0 hL0 n1 L1 hL1 n3 L3 hL3 n12 L12 hL12, spec_NarrowPairs.j15_eq rec k n0 L0 hL0 n1 L1 hL1 n3 L3 hL3 n12 L12 hL12, -eq_self]
  exact (spec_NarrowPairs.j13_run rec _ x0 x1 x5 x6 x7 x8 x9 x10 x11 x65 x66 x67 x68 H).symm
theorem spec_NarrowPairs.l12_eq (rec : Rec) (k : Nat) (n0 : Nat) (L0 : Sl → Int → Sl → Int → Hp → An) (hL0 : ∀ x0 x1 x5 x6 H, L0 x0 x1 x5 x6 H = iter ((orc spec_NarrowPairs.id).at (lbody (sub spec_NarrowPairs.body [1, 1, 1, 0, 1, 0]))) (ex PP (orc spec_NarrowPairs.id) rec k (lbody (sub spec_NarrowPairs.body [1, 1, 1, 0, 1, 0]))) (kAt PP (orc spec_NarrowPairs.id) rec k spec_NarrowPairs.body [1, 1, 1, 0, 1, 0] [] (K0 PP Go.Proofs.Try.f52)) n0 (St.of 89 [(0, .sl 1 x0), (1, .int .i64 x1), (5, .sl 1 x5), (6, .int .i64 x6)] []) H) (n1 : Nat) (L1 : Sl → Int → Sl → Int → Sl → Int → Hp → An) (hL1 : ∀ x0 x1 x5 x6 x7 x8 H, L1 x0 x1 x5 x6 x7 x8 H = iter ((orc spec_NarrowPairs.id).at (lbody (sub spec_NarrowPairs.body [1, 1, 1, 0, 1, 0, 0, 1, 0, 0, 1, 1, 0]))) (ex PP (orc spec_NarrowPairs.id) rec k (lbody (sub spec_NarrowPairs.body [1, 1, 1, 0, 1, 0, 0, 1, 0, 0, 1, 1, 0]))) (kAt PP (orc spec_NarrowPairs.id) rec k spec_NarrowPairs.body [1, 1, 1, 0, 1, 0, 0, 1, 0, 0, 1, 1, 0] [n0] (K0 PP Go.Proofs.Try.f52)) n1 (St.of 89 [(0, .sl 1 x0), (1, .int .i64 x1), (5, .sl 1 x5), (6, .int .i64 x6), (7, .sl 1 x7), (8, .int .i64 x8)] []) H) (n3 : Nat) (L3 : Sl → Int → Sl → Int → Sl → Int → Int → Hp → An) (hL3 : ∀ x0 x1 x5 x6 x7 x8 x9 H, L3 x0 x1 x5 x6 x7 x8 x9 H = iter ((orc spec_NarrowPairs.id).at (lbody (sub spec_NarrowPairs.body [1, 1, 1, 0, 1, 0, 0, 1, 0, 0, 1, 1, 0, 0, 1, 0, 0, 1, 0]))) (ex PP (orc spec_NarrowPairs.id) rec k (lbody (sub spec_NarrowPairs.body [1, 1, 1, 0, 1, 0, 0, 1, 0, 0, 1, 1, 0, 0, 1, 0, 0, 1, 0]))) (kAt PP (orc spec_NarrowPairs.id) rec k spec_NarrowPairs.body [1, 1, 1, 0, 1, 0, 0, 1, 0, 0, 1, 1, 0, 0, 1, 0, 0, 1, 0] [n0, n1] (K0 PP Go.Proofs.Try.f52)) n3 (St.of 89 [(0, .sl 1 x0), (1, .int .i64 x1), (5, .sl 1 x5), (6, .int .i64 x6), (7, .sl 1 x7), (8, .int .i64 x8), (9, .int .i64 x9)] []) H) : ∀ n x0 x1 x5 x6 x7 x8 x9 x10 x11 H, spec_NarrowPairs.l12 rec k L0 L1 L3 n x0 x1 x5 x6 x7 x8 x9 x10 x11 H = iter ((orc spec_NarrowPairs.id).at (lbody (sub spec_NarrowPairs.body [1, 1, 1, 0, 1, 0, 0, 1, 0, 0, 1, 1, 0, 0, 1, 0, 0, 1, 0, 0, 1, 0, 0, 1, 1, 1, 0]))) (ex PP (orc spec_NarrowPairs.id) rec k (lbody (sub spec_NarrowPairs.body [1, 1, 1, 0, 1, 0, 0, 1, 0, 0, 1, 1, 0, 0, 1, 0, 0, 1, 0, 0, 1, 0, 0, 1, 1, 1, 0]))) (kAt PP (orc spec_NarrowPairs.id) rec k spec_NarrowPairs.body [1, 1, 1, 0, 1, 0, 0, 1, 0, 0, 1, 1, 0, 0, 1, 0, 0, 1, 0, 0, 1, 0, 0, 1, 1, 1, 0] [n0, n1, n3] (K0 PP Go.Proofs.Try.f52)) n (St.of 89 [(0, .sl 1 x0), (1, .int .i64 x1), (5, .sl 1 x5), (6, .int .i64 x6), (7, .sl 1 x7), (8, .int .i64 x8), (9, .int .i64 x9), (10, .int .i64 x10), (11, .int .i64 x11)] []) H := by
  intro n
  induction n with
  | zero => intros; rfl
  | succ n ih =>
    intros x0 x1 x5 x6 x7 x8 x9 x10 x11 H
    simp only [spec_NarrowPairs.l12, hL0, hL1, hL3, spec_NarrowPairs.j13_eq rec k n0 L0 hL0 n1 L1 hL1 n3 L3 hL3 n (spec_NarrowPairs.l12 rec k L0 L1 L3 n) (fun x0 x1 x5 x6 x7 x8 x9 x10 x11 H => ih x0 x1 x5 x6 x7 x8 x9 x10 x11 H), spec_NarrowPairs.j10_eq rec k n0 L0 hL0 n1 L1 hL1 n3 L3 hL3, ih, -eq_self]
    kernel_rfl
theorem spec_NarrowPairs.j11_eq (rec : Rec) (k : Nat) (n0 : Nat) (L0 : Sl → Int → Sl → Int → Hp → An) (hL0 : ∀ x0 x1 x5 x6 H, L0 x0 x1 x5 x6 H = iter ((orc spec_NarrowPairs.id).at (lbody (sub spec_NarrowPairs.body [1, 1, 1, 0, 1, 0]))) (ex PP (orc spec_NarrowPairs.id) rec k (lbody (sub spec_NarrowPairs.body [1, 1, 1, 0, 1, 0]))) (kAt PP (orc spec_NarrowPairs.id) rec k spec_NarrowPairs.body [1, 1, 1, 0, 1, 0] [] (K0 PP Go.Proofs.Try.f52)) n0 (St.of 89 [(0, .sl 1 x0), (1, .int .i64 x1), (5, .sl 1 x5), (6, .int .i64 x6)] []) H) (n1 : Nat) (L1 : Sl → Int → Sl → Int → Sl → Int → Hp → An) (hL1 : ∀ x0 x1 x5 x6 x7 x8 H, L1 x0 x1 x5 x6 x7 x8 H = iter ((orc spec_NarrowPairs.id).at (lbody (sub spec_NarrowPairs.body [1, 1, 1, 0, 1, 0, 0, 1, 0, 0, 1, 1, 0]))) (ex PP (orc spec_NarrowPairs.id) rec k (lbody (sub spec_NarrowPairs.body [1, 1, 1, 0, 1, 0, 0, 1, 0, 0, 1, 1, 0]))) (kAt PP (orc spec_NarrowPairs.id) rec k spec_NarrowPairs.body [1, 1, 1, 0, 1, 0, 0, 1, 0, 0, 1, 1, 0] [n0] (K0 PP Go.Proofs.Try.f52)) n1 (St.of 89 [(0, .sl 1 x0), (1, .int .i64 x1), (5, .sl 1 x5), (6, .int .i64 x6), (7, .sl 1 x7), (8, .int .i64 x8)] []) H) (n3 : Nat) (L3 : Sl → Int → Sl → Int → Sl → Int → Int → Hp → An) (hL3 : ∀ x0 x1 x5 x6 x7 x8 x9 H, L3 x0 x1 x5 x6 x7 x8 x9 H = iter ((orc spec_NarrowPairs.id).at (lbody (sub spec_NarrowPairs.body [1, 1, 1, 0, 1, 0, 0, 1, 0, 0, 1, 1, 0, 0, 1, 0, 0, 1, 0]))) (ex PP (orc spec_NarrowPairs.id) rec k (lbody (sub spec_NarrowPairs.body [1, 1, 1, 0, 1, 0, 0, 1, 0, 0, 1, 1, 0, 0, 1, 0, 0, 1, 0]))) (kAt PP (orc spec_NarrowPairs.id) rec k spec_NarrowPairs.body [1, 1, 1, 0, 1, 0, 0, 1, 0, 0, 1, 1, 0, 0, 1, 0, 0, 1, 0] [n0, n1] (K0 PP Go.Proofs.Try.f52)) n3 (St.of 89 [(0, .sl 1 x0), (1, .int .i64 x1), (5, .sl 1 x5), (6, .int .i64 x6), (7, .sl 1 x7), (8, .int .i64 x8), (9, .int .i64 x9)] []) H) : ∀ x0 x1 x5 x6 x7 x8 x9 x10 H, spec_NarrowPairs.j11 rec k L0 L1 L3 x0 x1 x5 x6 x7 x8 x9 x10 H = ex PP (orc spec_NarrowPairs.id) rec k (sub spec_NarrowPairs.body [1, 1, 1, 0, 1, 0, 0, 1, 0, 0, 1, 1, 0, 0, 1, 0, 0, 1, 0, 0, 1, 0, 0, 1, 1]) (St.of 89 [(0, .sl 1 x0), (1, .int .i64 x1), (5, .sl 1 x5), (6, .int .i64 x6), (7, .sl 1 x7), (8, .int .i64 x8), (9, .int .i64 x9), (10, .int .i64 x10)] []) H (kAt PP (orc spec_NarrowPairs.id) rec k spec_NarrowPairs.body [1, 1, 1, 0, 1, 0, 0, 1, 0, 0, 1, 1, 0, 0, 1, 0, 0, 1, 0, 0, 1, 0, 0, 1, 1] [n0, n1, n3] (K0 PP Go.Proofs.Try.f52)) := by
  intros x0 x1 x5 x6 x7 x8 x9 x10 H
  unfold spec_NarrowPairs.j11
  try simp only [hL0, hL1, hL3, spec_NarrowPairs.l12_eq rec k n0 L0 hL0 n1 L1 hL1 n3 L3 hL3, -eq_self]
  kernel_rfl
theorem spec_NarrowPairs.j9_eq (rec : Rec) (k : Nat) (n0 : Nat) (L0 : Sl → Int → Sl → Int → Hp → An) (hL0 : ∀ x0 x1 x5 x6 H, L0 x0 x1 x5 x6 H = iter ((orc spec_NarrowPairs.id).at (lbody (sub spec_NarrowPairs.body [1, 1, 1, 0, 1, 0]))) (ex PP (orc spec_NarrowPairs.id) rec k (lbody (sub spec_NarrowPairs.body [1, 1, 1, 0, 1, 0]))) (kAt PP (orc spec_NarrowPairs.id) rec k spec_NarrowPairs.body [1, 1, 1, 0, 1, 0] [] (K0 PP Go.Proofs.Try.f52)) n0 (St.of 89 [(0, .sl 1 x0), (1, .int .i64 x1), (5, .sl 1 x5), (6, .int .i64 x6)] []) H) (n1 : Nat) (L1 : Sl → Int → Sl → Int → Sl → Int → Hp → An) (hL1 : ∀ x0 x1 x5 x6 x7 x8 H, L1 x0 x1 x5 x6 x7 x8 H = iter ((orc spec_NarrowPairs.id).at (lbody (sub spec_NarrowPairs.body [1, 1, 1, 0, 1, 0, 0, 1, 0, 0, 1, 1, 0]))) (ex PP (orc spec_NarrowPairs.id) rec k (lbody (sub spec_NarrowPairs.body [1, 1, 1, 0, 1, 0, 0, 1, 0, 0, 1, 1, 0]))) (kAt PP (orc spec_NarrowPairs.id) rec k spec_NarrowPairs.body [1, 1, 1, 0, 1, 0, 0, 1, 0, 0, 1, 1, 0] [n0] (K0 PP Go.Proofs.Try.f52)) n1 (St.of 89 [(0, .sl 1 x0), (1, .int .i64 x1), (5, .sl 1 x5), (6, .int .i64 x6), (7, .sl 1 x7), (8, .int .i64 x8)] []) H) (n3 : Nat) (L3 : Sl → Int → Sl → Int → Sl → Int → Int → Hp → An) (hL3 : ∀ x0 x1 x5 x6 x7 x8 x9 H, L3 x0 x1 x5 x6 x7 x8 x9 H = iter ((orc spec_NarrowPairs.id).at (lbody (sub spec_NarrowPairs.body [1, 1, 1, 0, 1, 0, 0, 1, 0, 0, 1, 1, 0, 0, 1, 0, 0, 1, 0]))) (ex PP (orc spec_NarrowPairs.id) rec k (lbody (sub spec_NarrowPairs.body [1, 1, 1, 0, 1, 0, 0, 1, 0, 0, 1, 1, 0, 0, 1, 0, 0, 1, 0]))) (kAt PP (orc spec_NarrowPairs.id) rec k spec_NarrowPairs.body [1, 1, 1, 0, 1, 0, 0, 1, 0, 0, 1, 1, 0, 0, 1, 0, 0, 1, 0] [n0, n1] (K0 PP Go.Proofs.Try.f52)) n3 (St.of 89 [(0, .sl 1 x0), (1, .int .i64 x1), (5, .sl 1 x5), (6, .int .i64 x6), (7, .sl 1 x7), (8, .int .i64 x8), (9, .int .i64 x9)] []) H) : ∀ x0 x1 x5 x6 x7 x8 x9 x10 x59 H, spec_NarrowPairs.j9 rec k L0 L1 L3 x0 x1 x5 x6 x7 x8 x9 x10 x59 H = ex PP (orc spec_NarrowPairs.id) rec k (sub spec_NarrowPairs.body [1, 1, 1, 0, 1, 0, 0, 1, 0, 0, 1, 1, 0, 0, 1, 0, 0, 1, 0, 0, 1, 0, 0, 1, 0, 1]) (St.of 89 [(0, .sl 1 x0), (1, .int .i64 x1), (5, .sl 1 x5), (6, .int .i64 x6), (7, .sl 1 x7), (8, .int .i64 x8), (9, .int .i64 x9), (10, .int .i64 x10), (59, .bool x59)] []) H (kAt PP (orc spec_NarrowPairs.id) rec k spec_NarrowPairs.body [1, 1, 1, 0, 1, 0, 0, 1, 0, 0, 1, 1, 0, 0, 1, 0, 0, 1, 0, 0, 1, 0, 0, 1, 0, 1] [n0, n1, n3] (K0 PP Go.Proofs.Try.f52)) := by
  intros x0 x1 x5 x6 x7 x8 x9 x10 x59 H
  unfold spec_NarrowPairs.j9
  try simp only [hL0, hL1, hL3, spec_NarrowPairs.j10_eq rec k n0 L0 hL0 n1 L1 hL1 n3 L3 hL3, spec_NarrowPairs.j11_eq rec k n0 L0 hL0 n1 L1 hL1 n3 L3 hL3, -eq_self]
  kernel_rfl
theorem spec_NarrowPairs.j7_eq (rec : Rec) (k : Nat) (n0 : Nat) (L0 : Sl → Int → Sl → Int → Hp → An) (hL0 : ∀ x0 x1 x5 x6 H, L0 x0 x1 x5 x6 H = iter ((orc spec_NarrowPairs.id).at (lbody (sub spec_NarrowPairs.body [1, 1, 1, 0, 1, 0]))) (ex PP (orc spec_NarrowPairs.id) rec k (lbody (sub spec_NarrowPairs.body [1, 1, 1, 0, 1, 0]))) (kAt PP (orc spec_NarrowPairs.id) rec k spec_NarrowPairs.body [1, 1, 1, 0, 1, 0] [] (K0 PP Go.Proofs.Try.f52)) n0 (St.of 89 [(0, .sl 1 x0), (1, .int .i64 x1), (5, .sl 1 x5), (6, .int .i64 x6)] []) H) (n1 : Nat) (L1 : Sl → Int → Sl → Int → Sl → Int → Hp → An) (hL1 : ∀ x0 x1 x5 x6 x7 x8 H, L1 x0 x1 x5 x6 x7 x8 H = iter ((orc spec_NarrowPairs.id).at (lbody (sub spec_NarrowPairs.body [1, 1, 1, 0, 1, 0, 0, 1, 0, 0, 1, 1, 0]))) (ex PP (orc spec_NarrowPairs.id) rec k (lbody (sub spec_NarrowPairs.body [1, 1, 1, 0, 1, 0, 0, 1, 0, 0, 1, 1, 0]))) (kAt PP (orc spec_NarrowPairs.id) rec k spec_NarrowPairs.body [1, 1, 1, 0, 1, 0, 0, 1, 0, 0, 1, 1, 0] [n0] (K0 PP Go.Proofs.Try.f52)) n1 (St.of 89 [(0, .sl 1 x0), (1, .int .i64 x1), (5, .sl 1 x5), (6, .int .i64 x6), (7, .sl 1 x7), (8, .int .i64 x8)] []) H) (n3 : Nat) (L3 : Sl → Int → Sl → Int → Sl → Int → Int → Hp → An) (hL3 : ∀ x0 x1 x5 x6 x7 x8 x9 H, L3 x0 x1 x5 x6 x7 x8 x9 H = iter ((orc spec_NarrowPairs.id).at (lbody (sub spec_NarrowPairs.body [1, 1, 1, 0, 1, 0, 0, 1, 0, 0, 1, 1, 0, 0, 1, 0, 0, 1, 0]))) (ex PP (orc spec_NarrowPairs.id) rec k (lbody (sub spec_NarrowPairs.body [1, 1, 1, 0, 1, 0, 0, 1, 0, 0, 1, 1, 0, 0, 1, 0, 0, 1, 0]))) (kAt PP (orc spec_NarrowPairs.id) rec k spec_NarrowPairs.body [1, 1, 1, 0, 1, 0, 0, 1, 0, 0, 1, 1, 0, 0, 1, 0, 0, 1, 0] [n0, n1] (K0 PP Go.Proofs.Try.f52)) n3 (St.of 89 [(0, .sl 1 x0), (1, .int .i64 x1), (5, .sl 1 x5), (6, .int .i64 x6), (7, .sl 1 x7), (8, .int .i64 x8), (9, .int .i64 x9)] []) H) : ∀ x0 x1 x5 x6 x7 x8 x9 x10 x45 x46 x47 x48 x49b x49o x50 x51b x51o x52 x53 x54 x59 H, spec_NarrowPairs.j7 rec k L0 L1 L3 x0 x1 x5 x6 x7 x8 x9 x10 x45 x46 x47 x48 x49b x49o x50 x51b x51o x52 x53 x54 x59 H = (kAt PP (orc spec_NarrowPairs.id) rec k spec_NarrowPairs.body [1, 1, 1, 0, 1, 0, 0, 1, 0, 0, 1, 1, 0, 0, 1, 0, 0, 1, 0, 0, 1, 0, 0, 1, 0, 0] [n0, n1, n3] (K0 PP Go.Proofs.Try.f52)) .normal (St.of 89 [(0, .sl 1 x0), (1, .int .i64 x1), (5, .sl 1 x5), (6, .int .i64 x6), (7, .sl 1 x7), (8, .int .i64 x8), (9, .int .i64 x9), (10, .int .i64 x10), (45, .int .i64 x45), (46, .sl 1 x46), (47, .sl 1 x47), (48, .int .i64 x48), (49, .ptr x49b x49o), (50, .int .i64 x50), (51, .ptr x51b x51o), (52, .int .i64 x52), (53, .bool x53), (54, .bool x54), (55, .tup []), (56, .tup []), (57, .tup []), (58, .tup []), (59, .bool x59)] []) H := by
  intros x0 x1 x5 x6 x7 x8 x9 x10 x45 x46 x47 x48 x49b x49o x50 x51b x51o x52 x53 x54 x59 H
  unfold spec_NarrowPairs.j7
  try simp only [hL0, hL1, hL3, spec_NarrowPairs.j9_eq rec k n0 L0 hL0 n1 L1 hL1 n3 L3 hL3, -eq_self]
  kernel_rfl
theorem spec_NarrowPairs.j8_eq (rec : Rec) (k : Nat) (n0 : Nat) (L0 : Sl → Int → Sl → Int → Hp → An) (hL0 : ∀ x0 x1 x5 x6 H, L0 x0 x1 x5 x6 H = iter ((orc spec_NarrowPairs.id).at (lbody (sub spec_NarrowPairs.body [1, 1, 1, 0, 1, 0]))) (ex PP (orc spec_NarrowPairs.id) rec k (lbody (sub spec_NarrowPairs.body [1, 1, 1, 0, 1, 0]))) (kAt PP (orc spec_NarrowPairs.id) rec k spec_NarrowPairs.body [1, 1, 1, 0, 1, 0] [] (K0 PP Go.Proofs.Try.f52)) n0 (St.of 89 [(0, .sl 1 x0), (1, .int .i64 x1), (5, .sl 1 x5), (6, .int .i64 x6)] []) H) (n1 : Nat) (L1 : Sl → Int → Sl → Int → Sl → Int → Hp → An) (hL1 : ∀ x0 x1 x5 x6 x7 x8 H, L1 x0 x1 x5 x6 x7 x8 H = iter ((orc spec_NarrowPairs.id).at (lbody (sub spec_NarrowPairs.body [1, 1, 1, 0, 1, 0, 0, 1, 0, 0, 1, 1, 0]))) (ex PP (orc spec_NarrowPairs.id) rec k (lbody (sub spec_NarrowPairs.body [1, 1, 1, 0, 1, 0, 0, 1, 0, 0, 1, 1, 0]))) (kAt PP (orc spec_NarrowPairs.id) rec k spec_NarrowPairs.body [1, 1, 1, 0, 1, 0, 0, 1, 0, 0, 1, 1, 0] [n0] (K0 PP Go.Proofs.Try.f52)) n1 (St.of 89 [(0, .sl 1 x0), (1, .int .i64 x1), (5, .sl 1 x5), (6, .int .i64 x6), (7, .sl 1 x7), (8, .int .i64 x8)] []) H) (n3 : Nat) (L3 : Sl → Int → Sl → Int → Sl → Int → Int → Hp → An) (hL3 : ∀ x0 x1 x5 x6 x7 x8 x9 H, L3 x0 x1 x5 x6 x7 x8 x9 H = iter ((orc spec_NarrowPairs.id).at (lbody (sub spec_NarrowPairs.body [1, 1, 1, 0, 1, 0, 0, 1, 0, 0, 1, 1, 0, 0, 1, 0, 0, 1, 0]))) (ex PP (orc spec_NarrowPairs.id) rec k (lbody (sub spec_NarrowPairs.body [1, 1, 1, 0, 1, 0, 0, 1, 0, 0, 1, 1, 0, 0, 1, 0, 0, 1, 0]))) (kAt PP (orc spec_NarrowPairs.id) rec k spec_NarrowPairs.body [1, 1, 1, 0, 1, 0, 0, 1, 0, 0, 1, 1, 0, 0, 1, 0, 0, 1, 0] [n0, n1] (K0 PP Go.Proofs.Try.f52)) n3 (St.of 89 [(0, .sl 1 x0), (1, .int .i64 x1), (5, .sl 1 x5), (6, .int .i64 x6), (7, .sl 1 x7), (8, .int .i64 x8), (9, .int .i64 x9)] []) H) : ∀ x0 x1 x5 x6 x7 x8 x9 x10 x45 x46 x47 x48 x49b x49o x50 x51b x51o x52 x53 x54 x55 x56 x57 x58 x59 H, spec_NarrowPairs.j8 rec k L0 L1 L3 x0 x1 x5 x6 x7 x8 x9 x10 x45 x46 x47 x48 x49b x49o x50 x51b x51o x52 x53 x54 x55 x56 x57 x58 x59 H = (kAt PP (orc spec_NarrowPairs.id) rec k spec_NarrowPairs.body [1, 1, 1, 0, 1, 0, 0, 1, 0, 0, 1, 1, 0, 0, 1, 0, 0, 1, 0, 0, 1, 0, 0, 1, 0, 0] [n0, n1, n3] (K0 PP Go.Proofs.Try.f52)) .normal (St.of 89 [(0, .sl 1 x0), (1, .int .i64 x1), (5, .sl 1 x5), (6, .int .i64 x6), (7, .sl 1 x7), (8, .int .i64 x8), (9, .int .i64 x9), (10, .int .i64 x10), (45, .int .i64 x45), (46, .sl 1 x46), (47, .sl 1 x47), (48, .int .i64 x48), (49, .ptr x49b x49o), (50, .int .i64 x50), (51, .ptr x51b x51o), (52, .int .i64 x52), (53, .bool x53), (54, .bool x54), (55, .int .i64 x55), (56, .sl 1 x56), (57, .int .i64 x57), (58, .bool x58), (59, .bool x59)] []) H := by
  intros x0 x1 x5 x6 x7 x8 x9 x10 x45 x46 x47 x48 x49b x49o x50 x51b x51o x52 x53 x54 x55 x56 x57 x58 x59 H
  unfold spec_NarrowPairs.j8
  try simp only [hL0, hL1, hL3, spec_NarrowPairs.j9_eq rec k n0 L0 hL0 n1 L1 hL1 n3 L3 hL3, -eq_self]
  kernel_rfl
theorem spec_NarrowPairs.j5_run (rec : Rec) (K : St → Hp → An) : ∀ (x0 : Sl) (x1 : Int) (x5 : Sl) (x6 : Int) (x7 : Sl) (x8 : Int) (x9 : Int) (x10 : Int) (x45 : Int) (x46 : Sl) (x47 : Sl) (x48 : Int) (x49b : Nat) (x49o : Nat) (x50 : Int) (x51b : Nat) (x51o : Nat) (x52 : Int) (x53 : Bool) (x54 : Bool) H, exOps PP (orc spec_NarrowPairs.id) rec (rops (sub spec_NarrowPairs.body [1, 1, 1, 0, 1, 0, 0, 1, 0, 0, 1, 1, 0, 0, 1, 0, 0, 1, 0, 0, 1, 0, 0, 1, 0, 0])) ((rops (sub spec_NarrowPairs.body [1, 1, 1, 0, 1, 0, 0, 1, 0, 0, 1, 1, 0, 0, 1, 0, 0, 1, 0, 0, 1, 0, 0, 1, 0, 0])).toList.drop 10) (St.of 89 [(0, .sl 1 x0), (1, .int .i64 x1), (5, .sl 1 x5), (6, .int .i64 x6), (7, .sl 1 x7), (8, .int .i64 x8), (9, .int .i64 x9), (10, .int .i64 x10), (45, .int .i64 x45), (46, .sl 1 x46), (47, .sl 1 x47), (48, .int .i64 x48), (49, .ptr x49b x49o), (50, .int .i64 x50), (51, .ptr x51b x51o), (52, .int .i64 x52), (53, .bool x53), (54, .bool x54)] []) H K = bif x54 then K (St.of 89 [(0, .sl 1 x0), (1, .int .i64 x1), (5, .sl 1 x5), (6, .int .i64 x6), (7, .sl 1 x7), (8, .int .i64 x8), (9, .int .i64 x9), (10, .int .i64 x10), (45, .int .i64 x45), (46, .sl 1 x46), (47, .sl 1 x47), (48, .int .i64 x48), (49, .ptr x49b x49o), (50, .int .i64 x50), (51, .ptr x51b x51o), (52, .int .i64 x52), (53, .bool x53), (54, .bool true), (55, .tup []), (56, .tup []), (57, .tup []), (58, .tup []), (59, .bool true)] []) H else (rec spec_MaskValues.id [.int .i64 x10] H).bind fun r11 => (r11.1.toS 1).bind fun s12 => K (St.of 89 [(0, .sl 1 x0), (1, .int .i64 x1), (5, .sl 1 x5), (6, .int .i64 x6), (7, .sl 1 x7), (8, .int .i64 x8), (9, .int .i64 x9), (10, .int .i64 x10), (45, .int .i64 x45), (46, .sl 1 x46), (47, .sl 1 x47), (48, .int .i64 x48), (49, .ptr x49b x49o), (50, .int .i64 x50), (51, .ptr x51b x51o), (52, .int .i64 x52), (53, .bool x53), (54, .bool false), (55, .int .i64 x10), (56, .sl 1 s12), (57, .int .i64 (s12.len : Int)), (58, .bool ((s12.len : Int) != 2)), (59, .bool ((s12.len : Int) != 2))] []) r11.2 := by
  intros x0 x1 x5 x6 x7 x8 x9 x10 x45 x46 x47 x48 x49b x49o x50 x51b x51o x52 x53 x54 H
  cases x54 <;> kernel_rfl
theorem spec_NarrowPairs.j5_eq (rec : Rec) (k : Nat) (n0 : Nat) (L0 : Sl → Int → Sl → Int → Hp → An) (hL0 : ∀ x0 x1 x5 x6 H, L0 x0 x1 x5 x6 H = iter ((orc spec_NarrowPairs.id).at (lbody (sub spec_NarrowPairs.body [1, 1, 1, 0, 1, 0]))) (ex PP (orc spec_NarrowPairs.id) rec k (lbody (sub spec_NarrowPairs.body [1, 1, 1, 0, 1, 0]))) (kAt PP (orc spec_NarrowPairs.id) rec k spec_NarrowPairs.body [1, 1, 1, 0, 1, 0] [] (K0 PP Go.Proofs.Try.f52)) n0 (St.of 89 [(0, .sl 1 x0), (1, .int .i64 x1), (5, .sl 1 x5), (6, .int .i64 x6)] []) H) (n1 : Nat) (L1 : Sl → Int → Sl → Int → Sl → Int → Hp → An) (hL1 : ∀ x0 x1 x5 x6 x7 x8 H, L1 x0 x1 x5 x6 x7 x8 H = iter ((orc spec_NarrowPairs.id).at (lbody (sub spec_NarrowPairs.body [1, 1, 1, 0, 1, 0, 0, 1, 0, 0, 1, 1, 0]))) (ex PP (orc spec_NarrowPairs.id) rec k (lbody (sub spec_NarrowPairs.body [1, 1, 1, 0, 1, 0, 0, 1, 0, 0, 1, 1, 0]))) (kAt PP (orc spec_NarrowPairs.id) rec k spec_NarrowPairs.body [1, 1, 1, 0, 1, 0, 0, 1, 0, 0, 1, 1, 0] [n0] (K0 PP Go.Proofs.Try.f52)) n1 (St.of 89 [(0, .sl 1 x0), (1, .int .i64 x1), (5, .sl 1 x5), (6, .int .i64 x6), (7, .sl 1 x7), (8, .int .i64 x8)] []) H) (n3 : Nat) (L3 : Sl → Int → Sl → Int → Sl → Int → Int → Hp → An) (hL3 : ∀ x0 x1 x5 x6 x7 x8 x9 H, L3 x0 x1 x5 x6 x7 x8 x9 H = iter ((orc spec_NarrowPairs.id).at (lbody (sub spec_NarrowPairs.body [1, 1, 1, 0, 1, 0, 0, 1, 0, 0, 1, 1, 0, 0, 1, 0, 0, 1, 0]))) (ex PP (orc spec_NarrowPairs.id) rec k (lbody (sub spec_NarrowPairs.body [1, 1, 1, 0, 1, 0, 0, 1, 0, 0, 1, 1, 0, 0, 1, 0, 0, 1, 0]))) (kAt PP (orc spec_NarrowPairs.id) rec k spec_NarrowPairs.body [1, 1, 1, 0, 1, 0, 0, 1, 0, 0, 1, 1, 0, 0, 1, 0, 0, 1, 0] [n0, n1] (K0 PP Go.Proofs.Try.f52)) n3 (St.of 89 [(0, .sl 1 x0), (1, .int .i64 x1), (5, .sl 1 x5), (6, .int .i64 x6), (7, .sl 1 x7), (8, .int .i64 x8), (9, .int .i64 x9)] []) H) : ∀ x0 x1 x5 x6 x7 x8 x9 x10 x45 x46 x47 x48 x49b x49o x50 x51b x51o x52 x53 x54 H, spec_NarrowPairs.j5 rec k L0 L1 L3 x0 x1 x5 x6 x7 x8 x9 x10 x45 x46 x47 x48 x49b x49o x50 x51b x51o x52 x53 x54 H = exOps PP (orc spec_NarrowPairs.id) rec (rops (sub spec_NarrowPairs.body [1, 1, 1, 0, 1, 0, 0, 1, 0, 0, 1, 1, 0, 0, 1, 0, 0, 1, 0, 0, 1, 0, 0, 1, 0, 0])) ((rops (sub spec_NarrowPairs.body [1, 1, 1, 0, 1, 0, 0, 1, 0, 0, 1, 1, 0, 0, 1, 0, 0, 1, 0, 0, 1, 0, 0, 1, 0, 0])).toList.drop 10) (St.of 89 [(0, .sl 1 x0), (1, .int .i64 x1), (5, .sl 1 x5), (6, .int .i64 x6), (7, .sl 1 x7), (8, .int .i64 x8), (9, .int .i64 x9), (10, .int .i64 x10), (45, .int .i64 x45), (46, .sl 1 x46), (47, .sl 1 x47), (48, .int .i64 x48), (49, .ptr x49b x49o), (50, .int .i64 x50), (51, .ptr x51b x51o), (52, .int .i64 x52), (53, .bool x53), (54, .bool x54)] []) H (fun s H => (kAt PP (orc spec_NarrowPairs.id) rec k spec_NarrowPairs.body [1, 1, 1, 0, 1, 0, 0, 1, 0, 0, 1, 1, 0, 0, 1, 0, 0, 1, 0, 0, 1, 0, 0, 1, 0, 0] [n0, n1, n3] (K0 PP Go.Proofs.Try.f52)) .normal s H) := by
  intros x0 x1 x5 x6 x7 x8 x9 x10 x45 x46 x47 x48 x49b x49o x50 x51b x51o x52 x53 x54 H
  unfold spec_NarrowPairs.j5
  try simp only [hL0, hL1, hL3, spec_NarrowPairs.j7_eq rec k n0 L0 hL0 n1 L1 hL1 n3 L3 hL3, spec_NarrowPairs.j8_eq rec k n0 L0 hL0 n1 L1 hL1 n3 L3 hL3, -eq_self]
  exact (spec_NarrowPairs.j5_run rec _ x0 x1 x5 x6 x7 x8 x9 x10 x45 x46 x47 x48 x49b x49o x50 x51b x51o x52 x53 x54 H).symm
theorem spec_NarrowPairs.l3_eq (rec : Rec) (k : Nat) (n0 : Nat) (L0 : Sl → Int → Sl → Int → Hp → An) (hL0 : ∀ x0 x1 x5 x6 H, L0 x0 x1 x5 x6 H = iter ((orc spec_NarrowPairs.id).at (lbody (sub spec_NarrowPairs.body [1, 1, 1, 0, 1, 0]))) (ex PP (orc spec_NarrowPairs.id) rec k (lbody (sub spec_NarrowPairs.body [1, 1, 1, 0, 1, 0]))) (kAt PP (orc spec_NarrowPairs.id) rec k spec_NarrowPairs.body [1, 1, 1, 0, 1, 0] [] (K0 PP Go.Proofs.Try.f52)) n0 (St.of 89 [(0, .sl 1 x0), (1, .int .i64 x1), (5, .sl 1 x5), (6, .int .i64 x6)] []) H) (n1 : Nat) (L1 : Sl → Int → Sl → Int → Sl → Int → Hp → An) (hL1 : ∀ x0 x1 x5 x6 x7 x8 H, L1 x0 x1 x5 x6 x7 x8 H = iter ((orc spec_NarrowPairs.id).at (lbody (sub spec_NarrowPairs.body [1, 1, 1, 0, 1, 0, 0, 1, 0, 0, 1, 1, 0]))) (ex PP (orc spec_NarrowPairs.id) rec k (lbody (sub spec_NarrowPairs.body [1, 1, 1, 0, 1, 0, 0, 1, 0, 0, 1, 1, 0]))) (kAt PP (orc spec_NarrowPairs.id) rec k spec_NarrowPairs.body [1, 1, 1, 0, 1, 0, 0, 1, 0, 0, 1, 1, 0] [n0] (K0 PP Go.Proofs.Try.f52)) n1 (St.of 89 [(0, .sl 1 x0), (1, .int .i64 x1), (5, .sl 1 x5), (6, .int .i64 x6), (7, .sl 1 x7), (8, .int .i64 x8)] []) H) : ∀ n x0 x1 x5 x6 x7 x8 x9 H, spec_NarrowPairs.l3 rec k L0 L1 n x0 x1 x5 x6 x7 x8 x9 H = iter ((orc spec_NarrowPairs.id).at (lbody (sub spec_NarrowPairs.body [1, 1, 1, 0, 1, 0, 0, 1, 0, 0, 1, 1, 0, 0, 1, 0, 0, 1, 0]))) (ex PP (orc spec_NarrowPairs.id) rec k (lbody (sub spec_NarrowPairs.body [1, 1, 1, 0, 1, 0, 0, 1, 0, 0, 1, 1, 0, 0, 1, 0, 0, 1, 0]))) (kAt PP (orc spec_NarrowPairs.id) rec k spec_NarrowPairs.body [1, 1, 1, 0, 1, 0, 0, 1, 0, 0, 1, 1, 0, 0, 1, 0, 0, 1, 0] [n0, n1] (K0 PP Go.Proofs.Try.f52)) n (St.of 89 [(0, .sl 1 x0), (1, .int .i64 x1), (5, .sl 1 x5), (6, .int .i64 x6), (7, .sl 1 x7), (8, .int .i64 x8), (9, .int .i64 x9)] []) H := by
  intro n
  induction n with
  | zero => intros; rfl
  | succ n ih =>
    intros x0 x1 x5 x6 x7 x8 x9 H
    simp only [spec_NarrowPairs.l3, hL0, hL1, spec_NarrowPairs.j5_eq rec k n0 L0 hL0 n1 L1 hL1 n (spec_NarrowPairs.l3 rec k L0 L1 n) (fun x0 x1 x5 x6 x7 x8 x9 H => ih x0 x1 x5 x6 x7 x8 x9 H), spec_NarrowPairs.j6_eq rec k n0 L0 hL0 n1 L1 hL1, ih, -eq_self]
    kernel_rfl
theorem spec_NarrowPairs.l1_eq (rec : Rec) (k : Nat) (n0 : Nat) (L0 : Sl → Int → Sl → Int → Hp → An) (hL0 : ∀ x0 x1 x5 x6 H, L0 x0 x1 x5 x6 H = iter ((orc spec_NarrowPairs.id).at (lbody (sub spec_NarrowPairs.body [1, 1, 1, 0, 1, 0]))) (ex PP (orc spec_NarrowPairs.id) rec k (lbody (sub spec_NarrowPairs.body [1, 1, 1, 0, 1, 0]))) (kAt PP (orc spec_NarrowPairs.id) rec k spec_NarrowPairs.body [1, 1, 1, 0, 1, 0] [] (K0 PP Go.Proofs.Try.f52)) n0 (St.of 89 [(0, .sl 1 x0), (1, .int .i64 x1), (5, .sl 1 x5), (6, .int .i64 x6)] []) H) : ∀ n x0 x1 x5 x6 x7 x8 H, spec_NarrowPairs.l1 rec k L0 n x0 x1 x5 x6 x7 x8 H = iter ((orc spec_NarrowPairs.id).at (lbody (sub spec_NarrowPairs.body [1, 1, 1, 0, 1, 0, 0, 1, 0, 0, 1, 1, 0]))) (ex PP (orc spec_NarrowPairs.id) rec k (lbody (sub spec_NarrowPairs.body [1, 1, 1, 0, 1, 0, 0, 1, 0, 0, 1, 1, 0]))) (kAt PP (orc spec_NarrowPairs.id) rec k spec_NarrowPairs.body [1, 1, 1, 0, 1, 0, 0, 1, 0, 0, 1, 1, 0] [n0] (K0 PP Go.Proofs.Try.f52)) n (St.of 89 [(0, .sl 1 x0), (1, .int .i64 x1), (5, .sl 1 x5), (6, .int .i64 x6), (7, .sl 1 x7), (8, .int .i64 x8)] []) H := by
  intro n
  induction n with
  | zero => intros; rfl
  | succ n ih =>
    intros x0 x1 x5 x6 x7 x8 H
    simp only [spec_NarrowPairs.l1, hL0, spec_NarrowPairs.l3_eq rec k n0 L0 hL0 n (spec_NarrowPairs.l1 rec k L0 n) (fun x0 x1 x5 x6 x7 x8 H => ih x0 x1 x5 x6 x7 x8 H), spec_NarrowPairs.j4_eq rec k n0 L0 hL0, ih, -eq_self]
    kernel_rfl
theorem spec_NarrowPairs.l0_eq (rec : Rec) (k : Nat) : ∀ n x0 x1 x5 x6 H, spec_NarrowPairs.l0 rec k n x0 x1 x5 x6 H = iter ((orc spec_NarrowPairs.id).at (lbody (sub spec_NarrowPairs.body [1, 1, 1, 0, 1, 0]))) (ex PP (orc spec_NarrowPairs.id) rec k (lbody (sub spec_NarrowPairs.body [1, 1, 1, 0, 1, 0]))) (kAt PP (orc spec_NarrowPairs.id) rec k spec_NarrowPairs.body [1, 1, 1, 0, 1, 0] [] (K0 PP Go.Proofs.Try.f52)) n (St.of 89 [(0, .sl 1 x0), (1, .int .i64 x1), (5, .sl 1 x5), (6, .int .i64 x6)] []) H := by
  intro n
  induction n with
  | zero => intros; rfl
  | succ n ih =>
    intros x0 x1 x5 x6 H
    simp only [spec_NarrowPairs.l0, spec_NarrowPairs.l1_eq rec k n (spec_NarrowPairs.l0 rec k n) (fun x0 x1 x5 x6 H => ih x0 x1 x5 x6 H), spec_NarrowPairs.j2_eq rec k, ih, -eq_self]
    kernel_rfl
theorem spec_NarrowPairs.f_eq (rec : Rec) (k : Nat) : ∀ a0 a1 H, spec_NarrowPairs.f rec k a0 a1 H = ex PP (orc spec_NarrowPairs.id) rec k spec_NarrowPairs.body (St.of 89 [(0, .sl 1 a0), (1, .int .i64 a1)] []) H (K0 PP Go.Proofs.Try.f52) := by
  intros a0 a1 H
  unfold spec_NarrowPairs.f
  try simp only [spec_NarrowPairs.l0_eq rec k, -eq_self]
  kernel_rfl
theorem spec_NarrowPairs.call (k : Nat) : ∀ a0 a1 H, callF PP orc (k + 1) spec_NarrowPairs.id [.sl 1 a0, .int .i64 a1] H = spec_NarrowPairs.f (callF PP orc k) k a0 a1 H := by
  intros a0 a1 H
  rw [callF_at (fn := Go.Proofs.Try.f52) (c := spec_NarrowPairs.body) Go.Proofs.Try.func52 (by kernel_rfl) (Nat.le_of_ble_eq_true (by kernel_rfl)), spec_NarrowPairs.f_eq]
  kernel_rfl
end Go.Proofs.Ytjojhbdghhmeeaa.Rp
/- The third technique: the model's side of the program. No conditions. -/
set_option linter.unusedVariables false
set_option linter.unusedSimpArgs false
namespace Go.Proofs.Ytjojhbdghhmeeaa.Rp
open Go Go.RowKit Go.Proofs.Ytjojhbdghhmeeaa.Ab

theorem line_len {n : Int} {l : List Int} (hv : masksOk n l = true) {line : Nat} (h : (line : Int) < 2 * n) : (lineCells n line).length = n.toNat := by
  obtain ⟨hn, _⟩ := masksOk_iff.1 hv
  unfold lineCells
  rw [if_pos ⟨hn, by omega, h⟩]
  simp
theorem Pairs_l9 (rec : Rec) (k : Nat) (L0 : Sl → Int → Sl → Int → Hp → An) (L1 : Sl → Int → Sl → Int → Sl → Int → Hp → An) (L3 : Sl → Int → Sl → Int → Sl → Int → Int → Hp → An) {H0 : Hp} {ms t cs : Sl} {l : List Int} {n m : Int} {line i jj : Nat} (hmk : masksOk n l = true) (hline : (line : Int) < 2 * n) (hcb : cs.blk ≠ t.blk) (hm : M m) (hjj : jj < 1000000) :
    ∀ (j q fuel : Nat) (H : Hp) (a : List Int) (P : Nat → Nat → Prop), (q : Int) + j = n → j < fuel → H0 <+: H → Reads .i64 H cs (lineCells n line) → Own 1 H0 H t (a.map (.int .i64)) → Sub l a P →
      ∃ H' a', spec_NarrowPairs.l12 rec k L0 L1 L3 fuel ms n t line cs i jj m q H = L3 ms n t line cs i ((jj : Int) + 1) H' ∧ H0 <+: H' ∧ Own 1 H0 H' t (a'.map (.int .i64)) ∧ Adv t.blk H H' ∧ Sub l a' (fun x w => P x w ∨ ∃ u : Nat, q ≤ u ∧ (u : Int) < n ∧ u ≠ i ∧ u ≠ jj ∧ x = lc n line u ∧ has m w = true) := by
  obtain ⟨l4, l16, lN, hN, n2, n4⟩ := masks_len hmk
  have hll := line_len hmk hline
  intro j
  induction j with
  | zero =>
    intro q fuel H a P hq hf hp hc ho hs
    obtain ⟨fuel, rfl⟩ : ∃ q, fuel = q + 1 := ⟨fuel - 1, by omega⟩
    refine ⟨H, a, ?_, hp, ho, Adv.refl _ _, hs.congr fun x w hx => ⟨.inl, by rintro (h | ⟨u, h1, h2, _⟩); exact h; omega⟩⟩
    simp (disch := omega) only [spec_NarrowPairs.l12, spec_NarrowPairs.j10, dt, df, bt, bf, nt, nf, Bool.and_self, Bool.not_true, Bool.not_false, cond_true, cond_false, Int.toNat_natCast, Int.toNat_zero, Int.toNat_one, Option.bind_some, wr, AV.toB, AV.toI, AV.toS, if_true]
  | succ j ih =>
    intro q fuel H a P hq hf hp hc ho hs
    obtain ⟨fuel, rfl⟩ : ∃ q, fuel = q + 1 := ⟨fuel - 1, by omega⟩
    have hal := hs.len
    have htl : t.len = a.length := by have := ho.len; simpa using this
    have hcl := hc.len
    have hq2 : q < (lineCells n line).length := by omega
    obtain ⟨c0, c1, c2⟩ := line_in hmk (mem_getD hq2)
    by_cases c : q ≠ i ∧ q ≠ jj
    · obtain ⟨H1, d1, d2, d3, d4⟩ := own_set1 ho hp ((lineCells n line).getD q 0).toNat (by omega) (mSub (a.getD ((lineCells n line).getD q 0).toNat 0) m)
      obtain ⟨H', a', e1, e2, e3, e4, e5⟩ := ih (q + 1) fuel H1 _ _ (by omega) (by omega) d2 (d4.reads hcb hc) d3 (hs.step _ c1 hm)
      push_cast at e1
      refine ⟨H', a', ?_, e2, e3, d4.trans e4, e5.congr fun x w hx => ?_⟩
      · simp (disch := omega) only [spec_NarrowPairs.l12, spec_NarrowPairs.j13, spec_NarrowPairs.j14, spec_NarrowPairs.j15, spec_NarrowPairs.j16, spec_NarrowPairs.j17, dt, nt, Bool.and_self, cond_true, Int.toNat_natCast, Option.bind_some, rdn hc, rdn (own_reads ho), m_sub (hs.ms.at _) hm, d1, wr (n := (q : Int) + 1), e1]
      · constructor
        · rintro ((h | ⟨h1, h2⟩) | ⟨u, h1, h2⟩)
          · exact .inl h
          · exact .inr ⟨q, Nat.le_refl _, by omega, c.1, c.2, h1, h2⟩
          · exact .inr ⟨u, by omega, h2⟩
        · rintro (h | ⟨u, h1, h2, h3, h4, h5, h6⟩)
          · exact .inl (.inl h)
          · by_cases e : u = q
            · subst e; exact .inl (.inr ⟨h5, h6⟩)
            · exact .inr ⟨u, by omega, h2, h3, h4, h5, h6⟩
    · obtain ⟨H', a', e1, e2, e3, e4, e5⟩ := ih (q + 1) fuel H a P (by omega) (by omega) hp hc ho hs
      push_cast at e1
      refine ⟨H', a', ?_, e2, e3, e4, e5.congr fun x w hx => ?_⟩
      · by_cases c1' : q = i
        · simp (disch := omega) only [spec_NarrowPairs.l12, spec_NarrowPairs.j13, spec_NarrowPairs.j14, spec_NarrowPairs.j15, spec_NarrowPairs.j16, spec_NarrowPairs.j17, dt, nf, cond_true, cond_false, wr (n := (q : Int) + 1), e1]
        · simp (disch := omega) only [spec_NarrowPairs.l12, spec_NarrowPairs.j13, spec_NarrowPairs.j14, spec_NarrowPairs.j15, spec_NarrowPairs.j16, spec_NarrowPairs.j17, dt, nt, nf, cond_true, cond_false, wr (n := (q : Int) + 1), e1]
      · constructor
        · rintro (h | ⟨u, h1, h2⟩)
          · exact .inl h
          · exact .inr ⟨u, by omega, h2⟩
        · rintro (h | ⟨u, h1, h2, h3, h4, h5, h6⟩)
          · exact .inl h
          · refine .inr ⟨u, ?_, h2, h3, h4, h5, h6⟩
            by_cases e : u = q
            · subst e; exact absurd ⟨h3, h4⟩ c
            · omega
/-- What two cells of a line take away. -/
def PQ2 (n : Int) (l : List Int) (line i j x w : Nat) : Prop := l.getD (lc n line i) 0 = l.getD (lc n line j) 0 ∧ two (l.getD (lc n line i) 0) = true ∧ ∃ u : Nat, (u : Int) < n ∧ u ≠ i ∧ u ≠ j ∧ x = lc n line u ∧ has (l.getD (lc n line i) 0) w = true
theorem Pairs_l3 {k : Nat} (hk : 2000000 ≤ k) (L0 : Sl → Int → Sl → Int → Hp → An) (L1 : Sl → Int → Sl → Int → Sl → Int → Hp → An) {H0 : Hp} {ms t cs : Sl} {l : List Int} {n : Int} {line i : Nat} (hmk : masksOk n l = true) (hm : Reads .i64 H0 ms l) (hline : (line : Int) < 2 * n) (hi : (i : Int) < n) :
    ∀ (j q fuel : Nat) (H : Hp) (a : List Int) (P : Nat → Nat → Prop), q + j = i → j < fuel → H0 <+: H → Reads .i64 H cs (lineCells n line) → cs.blk ≠ t.blk → Own 1 H0 H t (a.map (.int .i64)) → Sub l a P →
      ∃ H' a', spec_NarrowPairs.l3 (callF Ab.PP orc k) k L0 L1 fuel ms n t line cs i q H = L1 ms n t line cs ((i : Int) + 1) H' ∧ H0 <+: H' ∧ Own 1 H0 H' t (a'.map (.int .i64)) ∧ Adv t.blk H H' ∧ Sub l a' (fun x w => P x w ∨ ∃ u : Nat, q ≤ u ∧ u < i ∧ PQ2 n l line i u x w) := by
  obtain ⟨l4, l16, lN, hN, n2, n4⟩ := masks_len hmk
  have hll := line_len hmk hline
  have hM := masks_M hmk
  have hml := hm.len
  intro j
  induction j with
  | zero =>
    intro q fuel H a P hq hf hp hc hcb ho hs
    obtain ⟨fuel, rfl⟩ : ∃ q, fuel = q + 1 := ⟨fuel - 1, by omega⟩
    refine ⟨H, a, ?_, hp, ho, Adv.refl _ _, hs.congr fun x w hx => ⟨.inl, by rintro (h | ⟨u, h1, h2, _⟩); exact h; omega⟩⟩
    simp (disch := omega) only [spec_NarrowPairs.l3, spec_NarrowPairs.j6, dt, df, bt, bf, nt, nf, Bool.and_self, Bool.not_true, Bool.not_false, cond_true, cond_false, Int.toNat_natCast, Int.toNat_zero, Int.toNat_one, Option.bind_some, wr, AV.toB, AV.toI, AV.toS, if_true]
  | succ j ih =>
    intro q fuel H a P hq hf hp hc hcb ho hs
    obtain ⟨fuel, rfl⟩ : ∃ q, fuel = q + 1 := ⟨fuel - 1, by omega⟩
    have hcl := hc.len
    obtain ⟨c0, c1, c2⟩ := line_in hmk (mem_getD (show q < (lineCells n line).length by omega))
    obtain ⟨f0, f1, f2⟩ := line_in hmk (mem_getD (show i < (lineCells n line).length by omega))
    have hrd := pf_reads hp hm
    have e0 : ∀ z, l.getD ((lineCells n line).getD z 0).toNat 0 = l.getD (lc n line z) 0 := fun z => rfl
    by_cases ce : l.getD (lc n line i) 0 = l.getD (lc n line q) 0
    · obtain ⟨u, H1, a1, a2, a3⟩ := MaskValues_ok hk (l.getD (lc n line i) 0) H
      have hul := (own_reads a3).len
      have hc1 := pf_reads a2 hc
      by_cases c3 : (maskVals (l.getD (lc n line i) 0)).length = 2
      · obtain ⟨H2, a', b1, b2, b3, b4, b5⟩ := Pairs_l9 (callF Ab.PP orc k) k L0 L1 (spec_NarrowPairs.l3 (callF Ab.PP orc k) k L0 L1 fuel) (ms := ms) (i := i) (jj := q) hmk hline hcb (hM.at (lc n line i)) (by omega) n.toNat 0 k H1 a P (by omega) (by omega) (hp.trans a2) hc1 (own_pf ho a2) hs
        obtain ⟨H', a'', d1, d2, d3, d4, d5⟩ := ih (q + 1) fuel H2 a' _ (by omega) (by omega) b2 (b4.reads hcb hc1) hcb b3 b5
        push_cast at d1
        refine ⟨H', a'', ?_, d2, d3, ((pf_adv a2).trans b4).trans d4, d5.congr fun x w hx => ?_⟩
        · simp only [Int.natCast_zero] at b1
          simp (disch := omega) only [spec_NarrowPairs.l3, spec_NarrowPairs.j5, spec_NarrowPairs.j7, spec_NarrowPairs.j8, spec_NarrowPairs.j9, spec_NarrowPairs.j10, spec_NarrowPairs.j11, dt, df, bt, bf, nt, nf, Bool.and_self, Bool.not_true, Bool.not_false, cond_true, cond_false, Int.toNat_natCast, Int.toNat_zero, Int.toNat_one, Option.bind_some, wr, AV.toB, AV.toI, AV.toS, if_true, rdn hc, rdn hrd, e0, a1, hul, b1, d1]
        · have ht : two (l.getD (lc n line i) 0) = true := by unfold two; rw [c3]; rfl
          constructor
          · rintro ((h | ⟨u, h1, h2, h3, h4, h5, h6⟩) | ⟨u, h1, h2⟩)
            · exact .inl h
            · exact .inr ⟨q, Nat.le_refl _, by omega, ce, ht, u, h2, h3, h4, h5, h6⟩
            · exact .inr ⟨u, by omega, h2⟩
          · rintro (h | ⟨u, h1, h2, h3, h4, z, h5, h6, h7, h8, h9⟩)
            · exact .inl (.inl h)
            · by_cases e : u = q
              · subst e; exact .inl (.inr ⟨z, by omega, h5, h6, h7, h8, h9⟩)
              · exact .inr ⟨u, by omega, h2, h3, h4, z, h5, h6, h7, h8, h9⟩
      · obtain ⟨H', a'', d1, d2, d3, d4, d5⟩ := ih (q + 1) fuel H1 a P (by omega) (by omega) (hp.trans a2) hc1 hcb (own_pf ho a2) hs
        push_cast at d1
        refine ⟨H', a'', ?_, d2, d3, (pf_adv a2).trans d4, d5.congr fun x w hx => ?_⟩
        · simp (disch := omega) only [spec_NarrowPairs.l3, spec_NarrowPairs.j5, spec_NarrowPairs.j7, spec_NarrowPairs.j8, spec_NarrowPairs.j9, spec_NarrowPairs.j10, spec_NarrowPairs.j11, dt, df, bt, bf, nt, nf, Bool.and_self, Bool.not_true, Bool.not_false, cond_true, cond_false, Int.toNat_natCast, Int.toNat_zero, Int.toNat_one, Option.bind_some, wr, AV.toB, AV.toI, AV.toS, if_true, rdn hc, rdn hrd, e0, a1, hul, d1]
        · have ht : ¬ two (l.getD (lc n line i) 0) = true := by unfold two; rw [beq_iff_eq]; exact c3
          constructor
          · rintro (h | ⟨u, h1, h2⟩)
            · exact .inl h
            · exact .inr ⟨u, by omega, h2⟩
          · rintro (h | ⟨u, h1, h2, h3, h4, h5⟩)
            · exact .inl h
            · exact absurd h4 ht
    · obtain ⟨H', a'', d1, d2, d3, d4, d5⟩ := ih (q + 1) fuel H a P (by omega) (by omega) hp hc hcb ho hs
      push_cast at d1
      refine ⟨H', a'', ?_, d2, d3, d4, d5.congr fun x w hx => ?_⟩
      · simp (disch := omega) only [spec_NarrowPairs.l3, spec_NarrowPairs.j5, spec_NarrowPairs.j7, spec_NarrowPairs.j8, spec_NarrowPairs.j9, spec_NarrowPairs.j10, spec_NarrowPairs.j11, dt, Bool.and_self, cond_true, Int.toNat_natCast, Option.bind_some, rdn hc, rdn hrd, e0, nt ce, wr (n := (q : Int) + 1), d1]
      · constructor
        · rintro (h | ⟨u, h1, h2⟩)
          · exact .inl h
          · exact .inr ⟨u, by omega, h2⟩
        · rintro (h | ⟨u, h1, h2, h3, h4⟩)
          · exact .inl h
          · refine .inr ⟨u, ?_, h2, h3, h4⟩
            by_cases e : u = q
            · subst e; exact absurd h3 ce
            · omega
theorem Pairs_l1 {k : Nat} (hk : 2000000 ≤ k) (L0 : Sl → Int → Sl → Int → Hp → An) {H0 : Hp} {ms t cs : Sl} {l : List Int} {n : Int} {line : Nat} (hmk : masksOk n l = true) (hm : Reads .i64 H0 ms l) (hline : (line : Int) < 2 * n) (hcb : cs.blk ≠ t.blk) :
    ∀ (j q fuel : Nat) (H : Hp) (a : List Int) (P : Nat → Nat → Prop), (q : Int) + j = n → j < fuel → H0 <+: H → Reads .i64 H cs (lineCells n line) → Own 1 H0 H t (a.map (.int .i64)) → Sub l a P →
      ∃ H' a', spec_NarrowPairs.l1 (callF Ab.PP orc k) k L0 fuel ms n t line cs q H = L0 ms n t ((line : Int) + 1) H' ∧ H0 <+: H' ∧ Own 1 H0 H' t (a'.map (.int .i64)) ∧ Sub l a' (fun x w => P x w ∨ ∃ i u : Nat, q ≤ i ∧ (i : Int) < n ∧ u < i ∧ PQ2 n l line i u x w) := by
  obtain ⟨l4, l16, lN, hN, n2, n4⟩ := masks_len hmk
  intro j
  induction j with
  | zero =>
    intro q fuel H a P hq hf hp hc ho hs
    obtain ⟨fuel, rfl⟩ : ∃ q, fuel = q + 1 := ⟨fuel - 1, by omega⟩
    refine ⟨H, a, ?_, hp, ho, hs.congr fun x w hx => ⟨.inl, by rintro (h | ⟨i, u, h1, h2, _⟩); exact h; omega⟩⟩
    simp (disch := omega) only [spec_NarrowPairs.l1, spec_NarrowPairs.j4, dt, df, bt, bf, nt, nf, Bool.and_self, Bool.not_true, Bool.not_false, cond_true, cond_false, Int.toNat_natCast, Int.toNat_zero, Int.toNat_one, Option.bind_some, wr, AV.toB, AV.toI, AV.toS, if_true]
  | succ j ih =>
    intro q fuel H a P hq hf hp hc ho hs
    obtain ⟨fuel, rfl⟩ : ∃ q, fuel = q + 1 := ⟨fuel - 1, by omega⟩
    obtain ⟨H1, a', b1, b2, b3, b4, b5⟩ := Pairs_l3 hk L0 (spec_NarrowPairs.l1 (callF Ab.PP orc k) k L0 fuel) (cs := cs) (i := q) hmk hm hline (by omega) q 0 k H a P (by omega) (by omega) hp hc hcb ho hs
    obtain ⟨H', a'', d1, d2, d3, d4⟩ := ih (q + 1) fuel H1 a' _ (by omega) (by omega) b2 (b4.reads hcb hc) b3 b5
    push_cast at d1
    refine ⟨H', a'', ?_, d2, d3, d4.congr fun x w hx => ?_⟩
    · simp only [Int.natCast_zero] at b1
      simp (disch := omega) only [spec_NarrowPairs.l1, dt, df, bt, bf, nt, nf, Bool.and_self, Bool.not_true, Bool.not_false, cond_true, cond_false, Int.toNat_natCast, Int.toNat_zero, Int.toNat_one, Option.bind_some, wr, AV.toB, AV.toI, AV.toS, if_true, b1, d1]
    · constructor
      · rintro ((h | ⟨u, h1, h2, h3⟩) | ⟨i, u, h1, h2⟩)
        · exact .inl h
        · exact .inr ⟨q, u, Nat.le_refl _, by omega, h2, h3⟩
        · exact .inr ⟨i, u, by omega, h2⟩
      · rintro (h | ⟨i, u, h1, h2, h3, h4⟩)
        · exact .inl (.inl h)
        · by_cases e : i = q
          · subst e; exact .inl (.inr ⟨u, by omega, h3, h4⟩)
          · exact .inr ⟨i, u, by omega, h2, h3, h4⟩
theorem Pairs_l0 {k : Nat} (hk : 2000000 ≤ k) {H0 : Hp} {ms t : Sl} {l : List Int} {n : Int} (hmk : masksOk n l = true) (hm : Reads .i64 H0 ms l) :
    ∀ (j line fuel : Nat) (H : Hp) (a : List Int) (P : Nat → Nat → Prop), (line : Int) + j = 2 * n → j < fuel → H0 <+: H → Own 1 H0 H t (a.map (.int .i64)) → Sub l a P →
      ∃ H' a', spec_NarrowPairs.l0 (callF Ab.PP orc k) k fuel ms n t line H = some (.sl 1 t, H') ∧ H0 <+: H' ∧ Own 1 H0 H' t (a'.map (.int .i64)) ∧ Sub l a' (fun x w => P x w ∨ ∃ ln i u : Nat, line ≤ ln ∧ (ln : Int) < 2 * n ∧ (i : Int) < n ∧ u < i ∧ PQ2 n l ln i u x w) := by
  obtain ⟨l4, l16, lN, hN, n2, n4⟩ := masks_len hmk
  intro j
  induction j with
  | zero =>
    intro line fuel H a P hl hf hp ho hs
    obtain ⟨fuel, rfl⟩ : ∃ q, fuel = q + 1 := ⟨fuel - 1, by omega⟩
    refine ⟨H, a, ?_, hp, ho, hs.congr fun x w hx => ⟨.inl, by rintro (h | ⟨ln, i, u, h1, h2, _⟩); exact h; omega⟩⟩
    simp (disch := omega) only [spec_NarrowPairs.l0, spec_NarrowPairs.j2, dt, df, bt, bf, nt, nf, Bool.and_self, Bool.not_true, Bool.not_false, cond_true, cond_false, Int.toNat_natCast, Int.toNat_zero, Int.toNat_one, Option.bind_some, wr, AV.toB, AV.toI, AV.toS, if_true]
  | succ j ih =>
    intro line fuel H a P hl hf hp ho hs
    obtain ⟨fuel, rfl⟩ : ∃ q, fuel = q + 1 := ⟨fuel - 1, by omega⟩
    obtain ⟨cs, H1, a1, a2, a3⟩ := specLineCells_own hk n (line : Int) H
    have hcb : cs.blk ≠ t.blk := by have := a3.blk; have := own_lt' ho; omega
    obtain ⟨H2, a', b1, b2, b3, b4⟩ := Pairs_l1 hk (spec_NarrowPairs.l0 (callF Ab.PP orc k) k fuel) hmk hm (by omega) hcb n.toNat 0 k H1 a P (by omega) (by omega) (hp.trans a2) (own_reads a3) (own_pf ho a2) hs
    obtain ⟨H', a'', d1, d2, d3, d4⟩ := ih (line + 1) fuel H2 a' _ (by omega) (by omega) b2 b3 b4
    push_cast at d1
    refine ⟨H', a'', ?_, d2, d3, d4.congr fun x w hx => ?_⟩
    · simp only [Int.natCast_zero] at b1
      simp (disch := omega) only [spec_NarrowPairs.l0, dt, df, bt, bf, nt, nf, Bool.and_self, Bool.not_true, Bool.not_false, cond_true, cond_false, Int.toNat_natCast, Int.toNat_zero, Int.toNat_one, Option.bind_some, wr, AV.toB, AV.toI, AV.toS, if_true, a1, b1, d1]
    · constructor
      · rintro ((h | ⟨i, u, h1, h2, h3, h4⟩) | ⟨ln, i, u, h1, h2⟩)
        · exact .inl h
        · exact .inr ⟨line, i, u, Nat.le_refl _, by omega, h2, h3, h4⟩
        · exact .inr ⟨ln, i, u, by omega, h2⟩
      · rintro (h | ⟨ln, i, u, h1, h2, h3, h4, h5⟩)
        · exact .inl (.inl h)
        · by_cases e : ln = line
          · subst e; exact .inl (.inr ⟨i, u, by omega, h3, h4, h5⟩)
          · exact .inr ⟨ln, i, u, by omega, h2, h3, h4, h5⟩
theorem PQ_iff {n : Int} {l : List Int} {x w : Nat} : PQ n l x w ↔ ∃ ln i u : Nat, (ln : Int) < 2 * n ∧ (i : Int) < n ∧ u < i ∧ PQ2 n l ln i u x w := by
  constructor
  · rintro ⟨ln, i, j, k, h1, h2, h3, h4, h5, h6, h7, h8, h9, h10⟩
    exact ⟨ln, i, j, h1, h3, h2, h7, h8, k, h4, h5, h6, h9, h10⟩
  · rintro ⟨ln, i, j, h1, h3, h2, h7, h8, k, h4, h5, h6, h9, h10⟩
    exact ⟨ln, i, j, k, h1, h2, h3, h4, h5, h6, h7, h8, h9, h10⟩
theorem specNarrowPairs_ok {k : Nat} (hk : 2000010 ≤ k) {H : Hp} {ms : Sl} {l : List Int} {n : Int} (hb : -1 ≤ n ∧ n ≤ 5) (hm : Reads .i64 H ms l) (hl : l.length ≤ 1000) :
    ∃ t H', callF Ab.PP orc k spec_NarrowPairs.id [.sl 1 ms, .int .i64 n] H = some (.sl 1 t, H') ∧ H <+: H' ∧ Own 1 H H' t ((pairsV n l).map (.int .i64)) := by
  obtain ⟨k, rfl⟩ : ∃ q, k = q + 1 := ⟨k - 1, by omega⟩
  rw [spec_NarrowPairs.call]
  have h1 := specMasksValid_any (show 2000000 ≤ k by omega) hb hm hl
  unfold pairsV
  cases hv : masksOk n l with
  | false =>
    rw [hv] at h1
    rw [iN (by simp)]
    exact ⟨Sl.mk false H.length 0 0, H ++ [some (Blk.mk false [])], by simp only [spec_NarrowPairs.f, dt, df, bt, bf, nt, nf, Bool.and_self, Bool.not_true, Bool.not_false, cond_true, cond_false, Int.toNat_natCast, Int.toNat_zero, Int.toNat_one, Option.bind_some, wr, AV.toB, AV.toI, AV.toS, if_true, h1], (List.prefix_append _ _), own_new 1 H [] 0 rfl⟩
  | true =>
    rw [hv] at h1
    rw [ip rfl]
    obtain ⟨l4, l16, lN, hN, n2, n4⟩ := masks_len hv
    have hM := masks_M hv
    have h2 := l6Copy_ok (show 1 ≤ k by omega) hm hl
    have hnew := own_new 1 H (l.map (.int .i64)) l.length (by simp)
    obtain ⟨H', a', b1, b2, b3, b4⟩ := Pairs_l0 (show 2000000 ≤ k by omega) hv hm (2 * n).toNat 0 k (H ++ [some (Blk.mk false (l.map (.int .i64)))]) l _ (by omega) (by omega) (List.prefix_append _ _) hnew (Sub.refl hM)
    have e : a' = subAll l (PQ n l) := (b4.congr fun x w hx => (show _ ↔ PQ n l x w from by
      rw [PQ_iff]
      constructor
      · rintro (h | ⟨ln, i, u, _, h⟩)
        · exact h.elim
        · exact ⟨ln, i, u, h⟩
      · rintro ⟨ln, i, u, h⟩
        exact .inr ⟨ln, i, u, by omega, h⟩)).eq hM
    subst e
    refine ⟨_, H', ?_, b2, b3⟩
    simp only [Int.natCast_zero] at b1
    simp only [spec_NarrowPairs.f, dt, df, bt, bf, nt, nf, Bool.and_self, Bool.not_true, Bool.not_false, cond_true, cond_false, Int.toNat_natCast, Int.toNat_zero, Int.toNat_one, Option.bind_some, wr, AV.toB, AV.toI, AV.toS, if_true, h1, h2, b1]
end Go.Proofs.Ytjojhbdghhmeeaa.Rp
/- What the masks of a rule mean; emptying a cell keeps what fits. No conditions. -/
set_option linter.unusedVariables false
set_option linter.unusedSimpArgs false
namespace Go.Proofs.Ytjojhbdghhmeeaa.Rp
open Go Go.RowKit Go.Proofs.Ytjojhbdghhmeeaa.Ab

theorem orFrom_has {vals : List Int} (hv : Vals vals) : ∀ (j i : Nat) {fl : List Int}, Ms fl → i + j = vals.length → vals.length ≤ fl.length → ∀ x v : Nat, has ((orFrom vals fl i j).getD x 0) v = true ↔ has (fl.getD x 0) v = true ∨ (i ≤ x ∧ x < i + j ∧ vals.getD x 0 = (v : Int))
  | 0, i, fl, h, _, _, x, v => by rw [orFrom]; constructor; exact .inl; rintro (h | h); exact h; omega
  | j + 1, i, fl, h, hi, hl, x, v => by
    have hM := M.pw (hv.at i).1 (hv.at i).2
    rw [orFrom, orFrom_has hv j (i + 1) (h.set i (M.or (h.at i) hM)) (by omega) (by simpa using hl)]
    by_cases e : x = i
    · subst e
      have : (fl.set x (mOr (fl.getD x 0) (pw (vals.getD x 0)))).getD x 0 = mOr (fl.getD x 0) (pw (vals.getD x 0)) := by
        rw [List.getD_eq_getElem?_getD, List.getElem?_set_self (by omega)]; rfl
      rw [this, has_or, has_pw (hv.at x).1]
      simp only [Bool.or_eq_true, decide_eq_true_eq]
      constructor
      · rintro ((h | h) | h)
        · exact .inl h
        · exact .inr ⟨by omega, by omega, h.symm⟩
        · omega
      · rintro (h | h)
        · exact .inl (.inl h)
        · exact .inl (.inr h.2.2.symm)
    · have : (fl.set i (mOr (fl.getD i 0) (pw (vals.getD i 0)))).getD x 0 = fl.getD x 0 := by
        rw [List.getD_eq_getElem?_getD, List.getElem?_set_ne (Ne.symm e), ← List.getD_eq_getElem?_getD]
      rw [this]
      constructor
      · rintro (h | h)
        · exact .inl h
        · exact .inr ⟨by omega, by omega, h.2.2⟩
      · rintro (h | h)
        · exact .inl h
        · exact .inr ⟨by omega, by omega, h.2.2⟩

/-- One value of every mask. -/
def AllIn : List Int → List Int → Prop
  | [], [] => True
  | m :: ms, w :: ws => w ∈ maskVals m ∧ AllIn ms ws
  | _, _ => False
theorem AllIn.len : ∀ {ms ws : List Int}, AllIn ms ws → ws.length = ms.length
  | [], [], _ => rfl
  | _ :: _, _ :: _, h => by simp [AllIn.len h.2]
  | [], _ :: _, h => h.elim
  | _ :: _, [], h => h.elim
theorem AllIn.vals : ∀ {ms ws : List Int}, AllIn ms ws → ∀ w ∈ ws, 1 ≤ w ∧ w ≤ 4
  | [], [], _, w, hw => by cases hw
  | _ :: _, _ :: _, h, w, hw => by
    rcases List.mem_cons.1 hw with e | e
    · rw [e]; exact maskVals_mem h.1
    · exact AllIn.vals h.2 w e
  | [], _ :: _, h, _, _ => h.elim
  | _ :: _, [], h, _, _ => h.elim

theorem ways_has (h : List Int → Bool) : ∀ (ms vals fl : List Int), Vals vals → vals.length + ms.length ≤ 4 → Ms fl → vals.length + ms.length ≤ fl.length → ∀ x v : Nat, x < vals.length + ms.length →
    (has ((ways h ms vals fl).getD x 0) v = true ↔ has (fl.getD x 0) v = true ∨ ∃ ws, AllIn ms ws ∧ h (vals ++ ws) = true ∧ (vals ++ ws).getD x 0 = (v : Int))
  | [], vals, fl, hv, hl4, hf, hl, x, v, hx => by
    simp only [List.length_nil, Nat.add_zero] at hx hl
    have key : (∃ ws, AllIn [] ws ∧ h (vals ++ ws) = true ∧ (vals ++ ws).getD x 0 = (v : Int)) ↔ (h vals = true ∧ vals.getD x 0 = (v : Int)) := by
      constructor
      · rintro ⟨ws, h1, h2, h3⟩
        cases ws with
        | nil => rw [List.append_nil] at h2 h3; exact ⟨h2, h3⟩
        | cons w ws => exact h1.elim
      · rintro ⟨h1, h2⟩
        exact ⟨[], trivial, by rw [List.append_nil]; exact h1, by rw [List.append_nil]; exact h2⟩
    rw [key, ways]
    split
    · rename_i hh
      unfold orAll
      rw [orFrom_has hv vals.length 0 hf (by omega) hl]
      constructor
      · rintro (a | a)
        · exact .inl a
        · exact .inr ⟨hh, a.2.2⟩
      · rintro (a | a)
        · exact .inl a
        · exact .inr ⟨by omega, by omega, a.2⟩
    · rename_i hh
      constructor
      · exact .inl
      · rintro (a | a)
        · exact a
        · exact absurd a.1 hh
  | m :: ms, vals, fl, hv, hl4, hf, hl, x, v, hx => by
    simp only [List.length_cons] at hl4 hl hx
    have key : ∀ (L : List Int) (fl : List Int), (∀ w ∈ L, 1 ≤ w ∧ w ≤ 4) → Ms fl → vals.length + ms.length + 1 ≤ fl.length →
        (has ((L.foldl (fun f v => ways h ms (vals ++ [v]) f) fl).getD x 0) v = true ↔ has (fl.getD x 0) v = true ∨ ∃ w ∈ L, ∃ ws, AllIn ms ws ∧ h (vals ++ w :: ws) = true ∧ (vals ++ w :: ws).getD x 0 = (v : Int)) := by
      intro L
      induction L with
      | nil => intro fl _ _ _; simp
      | cons w L ih =>
        intro fl hL hf hl
        have hw := hL w (by simp)
        have hv1 := hv.app (show vals.length < 4 by omega) (v := w) ⟨by omega, hw.2⟩
        have w1 := ways_ok h ms (vals ++ [w]) fl hv1 (by simp; omega) hf
        have w2 := ways_has h ms (vals ++ [w]) fl hv1 (by simp; omega) hf (by simp; omega) x v (by simp; omega)
        rw [List.foldl_cons, ih _ (fun y hy => hL y (by simp [hy])) w1.1 (by rw [w1.2]; exact hl), w2]
        simp only [List.append_assoc, List.singleton_append]
        constructor
        · rintro ((a | ⟨ws, a⟩) | ⟨y, hy, ws, a⟩)
          · exact .inl a
          · exact .inr ⟨w, by simp, ws, a⟩
          · exact .inr ⟨y, by simp [hy], ws, a⟩
        · rintro (a | ⟨y, hy, ws, a⟩)
          · exact .inl (.inl a)
          · rcases List.mem_cons.1 hy with e | e
            · subst e; exact .inl (.inr ⟨ws, a⟩)
            · exact .inr ⟨y, e, ws, a⟩
    rw [ways, key (maskVals m) fl (fun w hw => maskVals_mem hw) hf (by omega)]
    constructor
    · rintro (a | ⟨w, hw, ws, a1, a2, a3⟩)
      · exact .inl a
      · exact .inr ⟨w :: ws, ⟨hw, a1⟩, a2, a3⟩
    · rintro (a | ⟨ws, a1, a2, a3⟩)
      · exact .inl a
      · cases ws with
        | nil => exact a1.elim
        | cons w ws => exact .inr ⟨w, a1.1, ws, a1.2, a2, a3⟩

theorem has_zero (v : Nat) : has 0 v = false := by unfold has; simp
/-- The masks of a rule: the values that its cells have in some way. -/
theorem ruleMasks_has {kind value : Int} {own : List Int} (hl : own.length ≤ 4) (x v : Nat) (hx : x < own.length) :
    has ((ruleMasksV kind value own).getD x 0) v = true ↔ ∃ ws, AllIn own ws ∧ holdsV kind value ws = true ∧ ws.getD x 0 = (v : Int) := by
  unfold ruleMasksV
  rw [ways_has _ own [] _ ⟨by simp, fun v hv => by cases hv⟩ (by simpa using hl) (Ms.zeros _) (by simp) x v (by simpa using hx)]
  have e : (List.replicate own.length (0 : Int)).getD x 0 = 0 := by simp [List.getD_eq_getElem?_getD, hx]
  rw [e, has_zero]
  simp
theorem ruleMasks_ok {kind value : Int} {own : List Int} (hl : own.length ≤ 4) : Ms (ruleMasksV kind value own) ∧ (ruleMasksV kind value own).length = own.length := by
  have := ways_ok (holdsV kind value) own [] (List.replicate own.length 0) ⟨by simp, fun v hv => by cases hv⟩ (by simpa using hl) (Ms.zeros _)
  exact ⟨this.1, this.2.trans (by simp)⟩
theorem ne_zero_has {m : Int} (hm : M m) : m ≠ 0 ↔ ∃ v : Nat, has m v = true := by
  constructor
  · intro h
    apply Classical.byContradiction
    intro hc
    apply h
    refine m_ext hm ⟨by decide, by decide⟩ fun v _ => ?_
    rw [has_zero]
    cases e : has m v with
    | false => rfl
    | true => exact absurd ⟨v, e⟩ hc
  · rintro ⟨v, hv⟩ e
    rw [e, has_zero] at hv; cases hv
theorem head_getD (l : List Int) : l.headD 0 = l.getD 0 0 := by cases l <;> rfl
theorem canHold_iff {n : Int} {g : List Int} {r : V} (h1 : 1 ≤ r.2.1.length) (h4 : r.2.1.length ≤ 4) : canHoldV n g r = true ↔ ∃ ws, AllIn (ownOf (openOf n g) r.2.1) ws ∧ holdsV r.1 r.2.2 ws = true := by
  unfold canHoldV
  have hl : (ownOf (openOf n g) r.2.1).length = r.2.1.length := by simp [ownOf]
  have ho := ruleMasks_ok (kind := r.1) (value := r.2.2) (own := ownOf (openOf n g) r.2.1) (by omega)
  rw [bne_iff_ne, head_getD, ne_zero_has (ho.1.at 0)]
  constructor
  · rintro ⟨v, hv⟩
    obtain ⟨ws, a, b, _⟩ := (ruleMasks_has (by omega) 0 v (by omega)).1 hv
    exact ⟨ws, a, b⟩
  · rintro ⟨ws, a, b⟩
    have hwl := a.len
    have hw := a.vals _ (mem_getD (show 0 < ws.length by omega))
    refine ⟨(ws.getD 0 0).toNat, (ruleMasks_has (by omega) 0 _ (by omega)).2 ⟨ws, a, b, by omega⟩⟩

theorem tab_mv : ∀ m : Nat, m < 16 → ∀ w : Nat, w < 6 → ((maskVals ((2 * m : Nat) : Int)).contains (w : Int) = (decide (1 ≤ w) && (2 * m).testBit w)) := by decide +kernel
/-- The values of a mask of values. -/
theorem mem_maskVals {m w : Int} (hm : 0 ≤ m ∧ m ≤ 30) (he : m.tmod 2 = 0) : w ∈ maskVals m ↔ (1 ≤ w ∧ w ≤ 4) ∧ has m w.toNat = true := by
  obtain ⟨a, ha⟩ : ∃ a : Nat, m = ((2 * a : Nat) : Int) := ⟨(m / 2).toNat, by rw [Int.tmod_eq_emod_of_nonneg hm.1] at he; omega⟩
  have ha16 : a < 16 := by omega
  by_cases hw : 1 ≤ w ∧ w ≤ 4
  · obtain ⟨b, rfl⟩ := Int.eq_ofNat_of_zero_le (show 0 ≤ w by omega)
    have := tab_mv a ha16 b (by omega)
    rw [← ha] at this
    rw [← List.contains_iff_mem, this]
    have h1 : 1 ≤ b := by omega
    have e : has m ((b : Nat) : Int).toNat = (2 * a).testBit b := by unfold has; rw [ha, Int.toNat_natCast, Int.toNat_natCast]
    rw [e]
    simp [h1, hw]
  · constructor
    · intro h; exact absurd (maskVals_mem h) hw
    · intro h; exact absurd h.1 hw

/-- g' is g with some cells empty. -/
def Le (g' g : List Int) : Prop := g'.length = g.length ∧ ∀ i : Nat, g'.getD i 0 = 0 ∨ g'.getD i 0 = g.getD i 0
theorem Le.refl (g : List Int) : Le g g := ⟨rfl, fun _ => .inr rfl⟩
theorem Le.trans {a b c : List Int} (h : Le a b) (h' : Le b c) : Le a c := ⟨h.1.trans h'.1, fun i => by
  rcases h.2 i with e | e
  · exact .inl e
  · rw [e]; exact h'.2 i⟩
theorem Le.gv {g' g : List Int} (h : Le g' g) (c : Int) : gv g' c = 0 ∨ gv g' c = gv g c := h.2 c.toNat
theorem getD_set {l : List Int} {i j : Nat} {v : Int} : (l.set i v).getD j 0 = if i = j ∧ i < l.length then v else l.getD j 0 := by
  rw [List.getD_eq_getElem?_getD, List.getElem?_set]
  by_cases e : i = j
  · subst e
    by_cases h : i < l.length
    · simp [h]
    · simp [h, List.getD_eq_getElem?_getD, List.getElem?_eq_none (Nat.le_of_not_lt h)]
  · simp [e]
theorem Le.set0 (g : List Int) (i : Nat) : Le (g.set i 0) g := ⟨by simp, fun j => by
  rw [getD_set]; split
  · exact .inl rfl
  · exact .inr rfl⟩

theorem clashL_anti {g' g : List Int} (h : Le g' g) : ∀ (cells s' s : List Int), (∀ v, 0 < v → v ∈ s' → v ∈ s) → clashL g' cells s' = true → clashL g cells s = true
  | [], s', s, _, hc => by cases hc
  | c :: cs, s', s, hs, hc => by
    rw [clashL] at hc ⊢
    rw [Bool.or_eq_true, Bool.and_eq_true, decide_eq_true_eq, List.contains_iff_mem] at hc ⊢
    rcases h.gv c with e | e
    · rcases hc with ⟨a, _⟩ | a
      · omega
      · refine .inr (clashL_anti h cs _ _ (fun v hv hm => ?_) a)
        rw [e] at hm
        rcases List.mem_cons.1 hm with e' | e'
        · omega
        · exact List.mem_cons_of_mem _ (hs v hv e')
    · rw [e] at hc
      rcases hc with ⟨a, b⟩ | a
      · exact .inl ⟨a, hs _ a b⟩
      · refine .inr (clashL_anti h cs _ _ (fun v hv hm => ?_) a)
        rcases List.mem_cons.1 hm with e' | e'
        · rw [e']; exact List.mem_cons_self
        · exact List.mem_cons_of_mem _ (hs v hv e')
theorem clashFrom_anti {g' g : List Int} (h : Le g' g) (n : Int) : ∀ (j line : Nat), clashFrom g' n line j = true → clashFrom g n line j = true
  | 0, _, hc => by cases hc
  | j + 1, line, hc => by
    rw [clashFrom, Bool.or_eq_true] at hc ⊢
    rcases hc with a | a
    · exact .inl (clashL_anti h _ _ _ (fun v _ hm => hm) a)
    · exact .inr (clashFrom_anti h n j (line + 1) a)
theorem clash_anti {g' g : List Int} (h : Le g' g) (n : Int) (hc : clash g n = false) : clash g' n = false := by
  cases e : clash g' n with
  | false => rfl
  | true =>
    have : clash g n = true := clashFrom_anti h n _ _ e
    rw [this] at hc; cases hc
theorem compatFrom_iff (a g : List Int) : ∀ (j i : Nat), compatFrom a g i j = true ↔ ∀ x, i ≤ x → x < i + j → a.getD x 0 > 0 → g.getD x 0 > 0 → g.getD x 0 = a.getD x 0
  | 0, i => by simp [compatFrom]; intro x h1 h2; omega
  | j + 1, i => by
    rw [compatFrom, Bool.and_eq_true, compatFrom_iff a g j (i + 1)]
    simp only [Bool.not_eq_true', Bool.and_eq_false_iff, decide_eq_false_iff_not, bne_eq_false_iff_eq]
    constructor
    · rintro ⟨h1, h2⟩ x hx1 hx2 ha hg
      by_cases e : x = i
      · subst e
        rcases h1 with h1 | h1 | h1
        · omega
        · omega
        · exact h1
      · exact h2 x (by omega) (by omega) ha hg
    · intro h
      refine ⟨?_, fun x h1 h2 => h x (by omega) (by omega)⟩
      by_cases h1 : a.getD i 0 > 0
      · by_cases h2 : g.getD i 0 > 0
        · exact .inr (.inr (h i (by omega) (by omega) h1 h2))
        · exact .inr (.inl h2)
      · exact .inl h1
theorem compatB_iff (a g : List Int) : compatB a g = true ↔ ∀ x, x < g.length → a.getD x 0 > 0 → g.getD x 0 > 0 → g.getD x 0 = a.getD x 0 := by
  unfold compatB
  rw [compatFrom_iff]
  constructor
  · intro h x hx; exact h x (by omega) (by omega)
  · intro h x _ hx; exact h x (by omega)
theorem AllIn.mono : ∀ {ms ms' ws : List Int}, ms.length = ms'.length → (∀ i, i < ms.length → ∀ w, w ∈ maskVals (ms.getD i 0) → w ∈ maskVals (ms'.getD i 0)) → AllIn ms ws → AllIn ms' ws
  | [], [], [], _, _, _ => trivial
  | m :: ms, m' :: ms', w :: ws, hl, hs, h => ⟨hs 0 (by simp) w h.1, AllIn.mono (by simpa using hl) (fun i hi w hw => hs (i + 1) (by simpa using hi) w hw) h.2⟩
  | [], _ :: _, _, hl, _, _ => by simp at hl
  | _ :: _, [], _, hl, _, _ => by simp at hl
  | [], [], _ :: _, _, _, h => h.elim
  | _ :: _, _ :: _, [], _, _, h => h.elim
theorem tab_open : ∀ n : Int, 2 ≤ n ∧ n ≤ 4 → (∀ v : Int, 1 ≤ v ∧ v ≤ n → maskVals (pw v) = [v]) ∧ maskVals (topMask n) = upto n.toNat 1 := by
  intro n hn
  have : n = 2 ∨ n = 3 ∨ n = 4 := by omega
  rcases this with rfl | rfl | rfl
  all_goals
    refine ⟨fun v hv => ?_, by decide⟩
    have : v = 1 ∨ v = 2 ∨ v = 3 ∨ v = 4 := by omega
    rcases this with rfl | rfl | rfl | rfl <;> first | omega | decide
theorem mem_upto : ∀ (j : Nat) (v w : Int), w ∈ upto j v ↔ v ≤ w ∧ w < v + j
  | 0, v, w => by
    constructor
    · intro h; cases h
    · intro h; omega
  | j + 1, v, w => by rw [upto, List.mem_cons, mem_upto j]; push_cast; omega
theorem openOf_at {n : Int} {g : List Int} {i : Nat} (hi : i < g.length) : (openOf n g).getD i 0 = if g.getD i 0 > 0 then pw (g.getD i 0) else topMask n := by
  unfold openOf
  rw [List.getD_eq_getElem?_getD, List.getElem?_map, List.getElem?_eq_getElem hi, List.getD_eq_getElem?_getD (l := g), List.getElem?_eq_getElem hi]; rfl
/-- The values that a cell can have: its own, or any. -/
theorem open_vals {n : Int} {g : List Int} (hg : gridOk g n = true) {i : Nat} (hi : i < g.length) (w : Int) : w ∈ maskVals ((openOf n g).getD i 0) ↔ (1 ≤ w ∧ w ≤ n) ∧ (g.getD i 0 > 0 → w = g.getD i 0) := by
  obtain ⟨hn, h2, h3⟩ := (gridOk_iff g n).1 hg
  have hv := h3 _ (mem_getD hi)
  obtain ⟨t1, t2⟩ := tab_open n hn
  rw [openOf_at hi]
  split
  · rename_i c
    rw [t1 _ ⟨by omega, hv.2⟩]
    simp only [List.mem_singleton]
    constructor
    · intro e; subst e; exact ⟨⟨by omega, hv.2⟩, fun _ => rfl⟩
    · intro h; exact h.2 c
  · rename_i c
    rw [t2, mem_upto]
    constructor
    · intro h; exact ⟨by omega, fun h => absurd h c⟩
    · intro h; omega
theorem canHold_anti {n : Int} {g' g : List Int} (h : Le g' g) (hg : gridOk g n = true) (hg' : gridOk g' n = true) {r : V} (hr : ruleOkV n r = true) (hc : canHoldV n g r = true) : canHoldV n g' r = true := by
  obtain ⟨c1, c2, c3, c4⟩ := ruleOk_cells hr
  have hl := ((gridOk_iff g n).1 hg).2.1
  have hl' := h.1
  rw [canHold_iff c3 c2] at hc ⊢
  obtain ⟨ws, a, b⟩ := hc
  refine ⟨ws, a.mono (by simp [ownOf]) (fun i hi w hw => ?_), b⟩
  have hi' : i < r.2.1.length := by simpa [ownOf] using hi
  have hcc := c1 _ (mem_getD hi')
  have e : ∀ g : List Int, (ownOf (openOf n g) r.2.1).getD i 0 = (openOf n g).getD (r.2.1.getD i 0).toNat 0 := fun g => by
    unfold ownOf
    rw [List.getD_eq_getElem?_getD, List.getElem?_map, List.getElem?_eq_getElem hi', List.getD_eq_getElem?_getD (l := r.2.1), List.getElem?_eq_getElem hi']; rfl
  rw [e] at hw ⊢
  have hlt : (r.2.1.getD i 0).toNat < g.length := by omega
  rw [open_vals hg hlt] at hw
  rw [open_vals hg' (by omega)]
  refine ⟨hw.1, fun h1 => ?_⟩
  rcases h.2 (r.2.1.getD i 0).toNat with e1 | e1
  · omega
  · rw [e1] at h1 ⊢; exact hw.2 h1
theorem grid_le {n : Int} {g' g : List Int} (h : Le g' g) (hg : gridOk g n = true) : gridOk g' n = true := by
  obtain ⟨hn, h2, h3⟩ := (gridOk_iff g n).1 hg
  refine (gridOk_iff g' n).2 ⟨hn, by rw [h.1]; exact h2, fun v hv => ?_⟩
  obtain ⟨i, hi, rfl⟩ := List.getElem_of_mem hv
  have e : g'.getD i 0 = g'[i] := by simp [List.getD_eq_getElem?_getD, hi]
  have hi2 : i < g.length := by rw [← h.1]; exact hi
  have := h3 _ (mem_getD hi2)
  rcases h.2 i with e1 | e1
  · rw [← e, e1]; omega
  · rw [← e, e1]; exact this
theorem fits_anti {n : Int} {given : List Int} {vs : List V} {g' g : List Int} (h : Le g' g) (hg : gridOk g n = true) (hv : vs.all (ruleOkV n) = true) (hc : fitsV n given vs g = true) : fitsV n given vs g' = true := by
  unfold fitsV at hc ⊢
  simp only [Bool.and_eq_true, List.all_eq_true, Bool.not_eq_true'] at hc hv ⊢
  refine ⟨?_, fun r hr => canHold_anti h hg (grid_le h hg) (hv r hr) (hc.2.1 r hr), clash_anti h n hc.2.2⟩
  rw [compatB_iff] at hc ⊢
  intro x hx ha hg1
  rcases h.2 x with e | e
  · omega
  · rw [e] at hg1 ⊢; exact hc.1 x (by rw [← h.1]; exact hx) ha hg1
theorem puzzleFits_anti {n : Int} {given : List Int} {vs : List V} {g' g : List Int} (h : Le g' g) (hc : puzzleFitsV n given vs g = true) : puzzleFitsV n given vs g' = true := by
  unfold puzzleFitsV at hc ⊢
  simp only [Bool.and_eq_true] at hc ⊢
  have hp := hc.1
  unfold puzzleV at hp
  simp only [Bool.and_eq_true] at hp
  exact ⟨hc.1, grid_le h hc.2.1, fits_anti h hc.2.1 hp.2.2 hc.2.2⟩
theorem puzzleFits_norules {n : Int} {given : List Int} {vs : List V} {g : List Int} (hc : puzzleFitsV n given vs g = true) : puzzleFitsV n given [] g = true := by
  unfold puzzleFitsV puzzleV fitsV at *
  simp only [Bool.and_eq_true, List.all_nil, List.length_nil] at *
  exact ⟨⟨hc.1.1, by simp⟩, hc.2.1, hc.2.2.1, trivial, hc.2.2.2.2⟩
theorem puzzleFits_square {n : Int} {given : List Int} {vs : List V} {g : List Int} (hc : puzzleFitsV n given vs g = true) : squareFits g n = true := by
  unfold puzzleFitsV fitsV at hc
  unfold squareFits
  simp only [Bool.and_eq_true] at *
  exact ⟨hc.2.1, hc.2.2.2.2⟩
end Go.Proofs.Ytjojhbdghhmeeaa.Rp
/- When a value stands twice in a line; filling one cell. No conditions. -/
set_option linter.unusedVariables false
set_option linter.unusedSimpArgs false
namespace Go.Proofs.Ytjojhbdghhmeeaa.Rp
open Go Go.RowKit Go.Proofs.Ytjojhbdghhmeeaa.Ab

theorem zt2 : (2 : Int).toNat = 2 := rfl
theorem zt3 : (3 : Int).toNat = 3 := rfl
theorem zt4 : (4 : Int).toNat = 4 := rfl
theorem clashL_iff (g : List Int) : ∀ (cells seen : List Int), clashL g cells seen = true ↔ ∃ i, i < cells.length ∧ 0 < gv g (cells.getD i 0) ∧ (gv g (cells.getD i 0) ∈ seen ∨ ∃ j, j < i ∧ gv g (cells.getD j 0) = gv g (cells.getD i 0))
  | [], seen => by simp [clashL]
  | c :: cs, seen => by
    rw [clashL, Bool.or_eq_true, Bool.and_eq_true, decide_eq_true_eq, List.contains_iff_mem, clashL_iff g cs]
    constructor
    · rintro (⟨h1, h2⟩ | ⟨i, hi, h1, h2⟩)
      · exact ⟨0, by simp, h1, .inl h2⟩
      · refine ⟨i + 1, by simpa using hi, h1, ?_⟩
        rcases h2 with h2 | ⟨j, hj, h2⟩
        · rcases List.mem_cons.1 h2 with e | e
          · exact .inr ⟨0, by omega, e.symm⟩
          · exact .inl e
        · exact .inr ⟨j + 1, by omega, h2⟩
    · rintro ⟨i, hi, h1, h2⟩
      cases i with
      | zero =>
        rcases h2 with h2 | ⟨j, hj, _⟩
        · exact .inl ⟨h1, h2⟩
        · omega
      | succ i =>
        refine .inr ⟨i, by simpa using hi, h1, ?_⟩
        rcases h2 with h2 | ⟨j, hj, h2⟩
        · exact .inl (List.mem_cons_of_mem _ h2)
        · cases j with
          | zero => exact .inl (by have e : gv g c = gv g (cs.getD i 0) := h2; rw [← e]; exact List.mem_cons_self)
          | succ j => exact .inr ⟨j, by omega, h2⟩
theorem clashFrom_iff (g : List Int) (n : Int) : ∀ (j line : Nat), clashFrom g n line j = true ↔ ∃ ln : Nat, line ≤ ln ∧ ln < line + j ∧ clashL g (lineCells n ln) [] = true
  | 0, line => by simp [clashFrom]; omega
  | j + 1, line => by
    rw [clashFrom, Bool.or_eq_true, clashFrom_iff g n j]
    constructor
    · rintro (h | ⟨ln, h1, h2, h3⟩)
      · exact ⟨line, Nat.le_refl _, by omega, h⟩
      · exact ⟨ln, by omega, by omega, h3⟩
    · rintro ⟨ln, h1, h2, h3⟩
      by_cases e : ln = line
      · subst e; exact .inl h3
      · exact .inr ⟨ln, by omega, by omega, h3⟩
def sameLine (N x y : Nat) : Prop := x / N = y / N ∨ x % N = y % N
theorem line_at {n : Int} (hn : 2 ≤ n ∧ n ≤ 4) {ln i : Nat} (hl : (ln : Int) < 2 * n) (hi : (i : Int) < n) : (lineCells n ln).getD i 0 = lineCell n ln i ∧ (lineCells n ln).length = n.toNat := by
  unfold lineCells
  rw [if_pos ⟨hn, by omega, hl⟩]
  refine ⟨?_, by simp⟩
  rw [List.getD_eq_getElem?_getD, List.getElem?_map, List.getElem?_range (by omega)]; rfl
theorem clash_iff {n : Int} (hn : 2 ≤ n ∧ n ≤ 4) (g : List Int) : clash g n = true ↔ ∃ x y : Nat, x < n.toNat * n.toNat ∧ y < n.toNat * n.toNat ∧ x ≠ y ∧ sameLine n.toNat x y ∧ 0 < g.getD x 0 ∧ g.getD y 0 = g.getD x 0 := by
  have e0 : clash g n = clashFrom g n 0 (2 * n).toNat := rfl
  rw [e0, clashFrom_iff]
  have gvd : ∀ c : Int, gv g c = g.getD c.toNat 0 := fun _ => rfl
  constructor
  · rintro ⟨ln, _, h2, h3⟩
    have hl : (ln : Int) < 2 * n := by omega
    rw [clashL_iff] at h3
    obtain ⟨i, hi, h4, h5⟩ := h3
    rw [(line_at hn hl (i := 0) (by omega)).2] at hi
    have hi' : (i : Int) < n := by omega
    rcases h5 with h5 | ⟨j, hj, h5⟩
    · cases h5
    rw [(line_at hn hl hi').1, gvd] at h4 h5
    rw [(line_at hn hl (i := j) (by omega)).1, gvd] at h5
    refine ⟨(lineCell n ln i).toNat, (lineCell n ln j).toNat, ?_, ?_, ?_, ?_, h4, h5⟩
    all_goals
      have : n = 2 ∨ n = 3 ∨ n = 4 := by omega
      unfold lineCell
      try unfold sameLine
      rcases this with rfl | rfl | rfl
    all_goals
      split
    all_goals
      try simp only [zt2, zt3, zt4] at *
      omega
  · rintro ⟨x, y, hx, hy, hne, hs, h1, h2⟩
    have key : ∀ x y : Nat, x < n.toNat * n.toNat → y < n.toNat * n.toNat → ∀ ln i j : Nat, (ln : Int) < 2 * n → (i : Int) < n → j < i → (lineCell n ln i).toNat = x → (lineCell n ln j).toNat = y → 0 < g.getD x 0 → g.getD y 0 = g.getD x 0 → ∃ ln : Nat, 0 ≤ ln ∧ ln < 0 + (2 * n).toNat ∧ clashL g (lineCells n ln) [] = true := by
      intro x y hx hy ln i j hl hi hj e1 e2 h1 h2
      refine ⟨ln, by omega, by omega, (clashL_iff _ _ _).2 ⟨i, by rw [(line_at hn hl hi).2]; omega, ?_, .inr ⟨j, hj, ?_⟩⟩⟩
      · rw [(line_at hn hl hi).1, gvd, e1]; exact h1
      · rw [(line_at hn hl hi).1, (line_at hn hl (i := j) (by omega)).1, gvd, gvd, e1, e2]; exact h2
    have hrow : ∀ x y : Nat, x < n.toNat * n.toNat → y < n.toNat * n.toNat → x / n.toNat = y / n.toNat → y % n.toNat < x % n.toNat → 0 < g.getD x 0 → g.getD y 0 = g.getD x 0 → ∃ ln : Nat, 0 ≤ ln ∧ ln < 0 + (2 * n).toNat ∧ clashL g (lineCells n ln) [] = true := by
      intro x y hx hy h3 h4 h1 h2
      refine key x y hx hy (x / n.toNat) (x % n.toNat) (y % n.toNat) ?_ ?_ h4 ?_ ?_ h1 h2
      all_goals
        have : n = 2 ∨ n = 3 ∨ n = 4 := by omega
        try unfold lineCell
        rcases this with rfl | rfl | rfl
      all_goals
        try split
      all_goals
        try simp only [zt2, zt3, zt4] at *
        omega
    have hcol : ∀ x y : Nat, x < n.toNat * n.toNat → y < n.toNat * n.toNat → x % n.toNat = y % n.toNat → y / n.toNat < x / n.toNat → 0 < g.getD x 0 → g.getD y 0 = g.getD x 0 → ∃ ln : Nat, 0 ≤ ln ∧ ln < 0 + (2 * n).toNat ∧ clashL g (lineCells n ln) [] = true := by
      intro x y hx hy h3 h4 h1 h2
      refine key x y hx hy (n.toNat + x % n.toNat) (x / n.toNat) (y / n.toNat) ?_ ?_ h4 ?_ ?_ h1 h2
      all_goals
        have : n = 2 ∨ n = 3 ∨ n = 4 := by omega
        try unfold lineCell
        rcases this with rfl | rfl | rfl
      all_goals
        try split
      all_goals
        try simp only [zt2, zt3, zt4] at *
        omega
    have h2' : g.getD x 0 = g.getD y 0 := h2.symm
    have h1' : 0 < g.getD y 0 := by omega
    have hxy : x / n.toNat = y / n.toNat → x % n.toNat ≠ y % n.toNat := fun h3 h4 => hne (by rw [← Nat.div_add_mod x n.toNat, ← Nat.div_add_mod y n.toNat, h3, h4])
    rcases hs with hs | hs
    · rcases Nat.lt_or_gt_of_ne (hxy hs) with h | h
      · exact hrow y x hy hx hs.symm h h1' h2'
      · exact hrow x y hx hy hs h h1 h2
    · have : x / n.toNat ≠ y / n.toNat := fun h => hxy h hs
      rcases Nat.lt_or_gt_of_ne this with h | h
      · exact hcol y x hy hx hs.symm h h1' h2'
      · exact hcol x y hx hy hs h h1 h2

/-! ### One cell more -/
/-- Does the value of a cell stand in another cell of its lines, from the cell k of them on? -/
def cellFrom (N : Nat) (g : List Int) (at' : Nat) : Nat → Nat → Bool
  | _, 0 => false
  | k, j + 1 => (decide (at' / N * N + k ≠ at') && decide (g.getD (at' / N * N + k) 0 = g.getD at' 0)) || ((decide (k * N + at' % N ≠ at') && decide (g.getD (k * N + at' % N) 0 = g.getD at' 0)) || cellFrom N g at' (k + 1) j)
theorem cellFrom_iff (N : Nat) (g : List Int) (at' : Nat) : ∀ (j k : Nat), cellFrom N g at' k j = true ↔ ∃ u, k ≤ u ∧ u < k + j ∧ ((at' / N * N + u ≠ at' ∧ g.getD (at' / N * N + u) 0 = g.getD at' 0) ∨ (u * N + at' % N ≠ at' ∧ g.getD (u * N + at' % N) 0 = g.getD at' 0))
  | 0, k => by simp [cellFrom]; omega
  | j + 1, k => by
    rw [cellFrom, Bool.or_eq_true, Bool.or_eq_true, Bool.and_eq_true, Bool.and_eq_true, cellFrom_iff N g at' j]
    simp only [decide_eq_true_eq]
    constructor
    · rintro (h | h | ⟨u, h1, h2, h3⟩)
      · exact ⟨k, Nat.le_refl _, by omega, .inl h⟩
      · exact ⟨k, Nat.le_refl _, by omega, .inr h⟩
      · exact ⟨u, by omega, by omega, h3⟩
    · rintro ⟨u, h1, h2, h3⟩
      by_cases e : u = k
      · subst e
        rcases h3 with h3 | h3
        · exact .inl h3
        · exact .inr (.inl h3)
      · exact .inr (.inr ⟨u, by omega, by omega, h3⟩)
def cellFitsV (n : Int) (vs : List V) (g : List Int) (at' : Nat) : Bool := !cellFrom n.toNat g at' 0 n.toNat && vs.all fun r => !r.2.1.contains (at' : Int) || canHoldV n g r
theorem cell_clash {n : Int} (hn : 2 ≤ n ∧ n ≤ 4) {g : List Int} (hl : g.length = n.toNat * n.toNat) {at' : Nat} (ha : at' < g.length) {v : Int} (hv : 1 ≤ v) (hc : clash g n = false) (h0 : g.getD at' 0 = 0) : clash (g.set at' v) n = cellFrom n.toNat (g.set at' v) at' 0 n.toNat := by
  have hat : (g.set at' v).getD at' 0 = v := by rw [getD_set, if_pos ⟨rfl, ha⟩]
  have hne : ∀ x, x ≠ at' → (g.set at' v).getD x 0 = g.getD x 0 := fun x hx => by rw [getD_set, if_neg (by omega)]
  have hno : ¬ ∃ x y : Nat, x < n.toNat * n.toNat ∧ y < n.toNat * n.toNat ∧ x ≠ y ∧ sameLine n.toNat x y ∧ 0 < g.getD x 0 ∧ g.getD y 0 = g.getD x 0 := by
    intro h; rw [← clash_iff hn] at h; rw [h] at hc; cases hc
  rw [Bool.eq_iff_iff, clash_iff hn, cellFrom_iff, hat]
  have one : ∀ x, x < n.toNat * n.toNat → x ≠ at' → sameLine n.toNat at' x → (g.set at' v).getD x 0 = v → ∃ u, 0 ≤ u ∧ u < 0 + n.toNat ∧ ((at' / n.toNat * n.toNat + u ≠ at' ∧ (g.set at' v).getD (at' / n.toNat * n.toNat + u) 0 = v) ∨ (u * n.toNat + at' % n.toNat ≠ at' ∧ (g.set at' v).getD (u * n.toNat + at' % n.toNat) 0 = v)) := by
    intro x hx hxa hs hgx
    rcases hs with hs | hs
    · refine ⟨x % n.toNat, Nat.zero_le _, by have := Nat.mod_lt x (show n.toNat > 0 by omega); omega, .inl ?_⟩
      have e : at' / n.toNat * n.toNat + x % n.toNat = x := by rw [hs, Nat.mul_comm]; exact Nat.div_add_mod x n.toNat
      rw [e]; exact ⟨hxa, hgx⟩
    · refine ⟨x / n.toNat, Nat.zero_le _, by have := Nat.div_lt_of_lt_mul hx; omega, .inr ?_⟩
      have e : x / n.toNat * n.toNat + at' % n.toNat = x := by rw [hs, Nat.mul_comm]; exact Nat.div_add_mod x n.toNat
      rw [e]; exact ⟨hxa, hgx⟩
  constructor
  · rintro ⟨x, y, hx, hy, hxy, hs, h1, h2⟩
    by_cases ex : x = at'
    · subst ex
      rw [hat] at h2
      exact one y hy (Ne.symm hxy) hs h2
    · by_cases ey : y = at'
      · subst ey
        rw [hat] at h2
        exact one x hx ex (by rcases hs with h | h; exact .inl h.symm; exact .inr h.symm) h2.symm
      · rw [hne x ex] at h1 h2
        rw [hne y ey] at h2
        exact absurd ⟨x, y, hx, hy, hxy, hs, h1, h2⟩ hno
  · rintro ⟨u, _, hu, h⟩
    have hdm := Nat.div_add_mod at' n.toNat
    have hmul : n.toNat * (at' / n.toNat) = at' / n.toNat * n.toNat := Nat.mul_comm _ _
    have : n = 2 ∨ n = 3 ∨ n = 4 := by omega
    rcases h with ⟨h1, h2⟩ | ⟨h1, h2⟩
    · refine ⟨at', at' / n.toNat * n.toNat + u, by omega, ?_, Ne.symm h1, .inl ?_, by rw [hat]; omega, by rw [hat, h2]⟩
      all_goals
        rcases this with rfl | rfl | rfl <;> try simp only [zt2, zt3, zt4] at * <;> omega
    · refine ⟨at', u * n.toNat + at' % n.toNat, by omega, ?_, Ne.symm h1, .inr ?_, by rw [hat]; omega, by rw [hat, h2]⟩
      all_goals
        rcases this with rfl | rfl | rfl <;> try simp only [zt2, zt3, zt4] at * <;> omega
theorem own_away {n : Int} {g : List Int} {at' : Nat} {v : Int} {cells : List Int} (hc : ¬ (at' : Int) ∈ cells) (hp : ∀ c ∈ cells, 0 ≤ c) : ownOf (openOf n (g.set at' v)) cells = ownOf (openOf n g) cells := by
  unfold ownOf
  refine List.map_congr_left fun c hm => ?_
  have hne : at' ≠ c.toNat := fun e => hc (by have := hp c hm; rw [show (at' : Int) = c by omega]; exact hm)
  unfold gv openOf
  rw [List.getD_eq_getElem?_getD, List.getD_eq_getElem?_getD, List.getElem?_map, List.getElem?_map, List.getElem?_set_ne hne]
theorem fits_step {n : Int} {given : List Int} {vs : List V} {g : List Int} (hf : fitsV n given vs g = true) (hg : gridOk g n = true) (hle : Le given g) (hgg : ∀ x, 0 ≤ given.getD x 0) {at' : Nat} (ha : at' < g.length) (h0 : g.getD at' 0 = 0) {v : Int} (hv : 1 ≤ v ∧ v ≤ n) (hro : ∀ r ∈ vs, ruleOkV n r = true) :
    fitsV n given vs (g.set at' v) = cellFitsV n vs (g.set at' v) at' := by
  obtain ⟨hn, h2, _⟩ := (gridOk_iff g n).1 hg
  unfold fitsV at hf ⊢
  simp only [Bool.and_eq_true, Bool.not_eq_true', List.all_eq_true] at hf
  obtain ⟨f1, f2, f3⟩ := hf
  have hl : g.length = n.toNat * n.toNat := by
    have : n = 2 ∨ n = 3 ∨ n = 4 := by omega
    rcases this with rfl | rfl | rfl <;> simp <;> omega
  have hc : compatB given (g.set at' v) = true := by
    rw [compatB_iff] at f1 ⊢
    intro x hx h1 h3
    rw [getD_set] at h3 ⊢
    have hx' : x < g.length := by simpa using hx
    by_cases e : at' = x
    · subst e
      rcases hle.2 at' with e | e <;> omega
    · rw [if_neg (by omega)] at h3 ⊢; exact f1 x hx' h1 h3
  unfold cellFitsV
  rw [hc, Bool.true_and, cell_clash hn hl ha hv.1 f3 h0, Bool.and_comm]
  congr 1
  rw [Bool.eq_iff_iff, List.all_eq_true, List.all_eq_true]
  refine forall_congr' fun r => forall_congr' fun hr => ?_
  by_cases hm : (at' : Int) ∈ r.2.1
  · have : r.2.1.contains (at' : Int) = true := List.contains_iff_mem.2 hm
    rw [this]; simp
  · have : r.2.1.contains (at' : Int) = false := by rw [← Bool.not_eq_true, List.contains_iff_mem]; exact hm
    rw [this]
    have e : canHoldV n (g.set at' v) r = canHoldV n g r := by
      unfold canHoldV
      rw [own_away hm fun c h => ((ruleOk_cells (hro r hr)).1 c h).1]
    rw [e, f2 r hr]; simp
end Go.Proofs.Ytjojhbdghhmeeaa.Rp
/- What the solutions are. No conditions. -/
set_option linter.unusedVariables false
set_option linter.unusedSimpArgs false
namespace Go.Proofs.Ytjojhbdghhmeeaa.Rp
open Go Go.RowKit Go.Proofs.Ytjojhbdghhmeeaa.Ab

theorem ext_getD {a b : List Int} (hl : a.length = b.length) (h : ∀ i, i < a.length → a.getD i 0 = b.getD i 0) : a = b := by
  apply List.ext_getElem hl
  intro i h1 h2
  have := h i h1
  rw [List.getD_eq_getElem?_getD, List.getElem?_eq_getElem h1, List.getD_eq_getElem?_getD, List.getElem?_eq_getElem h2] at this
  exact this
theorem grid_set'' {g : List Int} {n : Int} (h : gridOk g n = true) (i : Nat) (v : Int) (hv : 0 ≤ v ∧ v ≤ n) : gridOk (g.set i v) n = true := by
  obtain ⟨h1, h2, h3⟩ := (gridOk_iff g n).1 h
  refine (gridOk_iff _ n).2 ⟨h1, by simpa using h2, fun x hx => ?_⟩
  rcases List.mem_or_eq_of_mem_set hx with h | h
  · exact h3 x h
  · subst h; exact hv
theorem Le.up {g x : List Int} (h : Le g x) {i : Nat} (hi : i < g.length) : Le (g.set i (x.getD i 0)) x := ⟨by simpa using h.1, fun j => by
  rw [getD_set]
  split
  · rename_i e; right; rw [e.1]
  · exact h.2 j⟩
theorem Le.set {g : List Int} {i : Nat} (h0 : g.getD i 0 = 0) (v : Int) : Le g (g.set i v) := ⟨by simp, fun j => by
  rw [getD_set]
  split
  · rename_i e; left; rw [← e.1]; exact h0
  · exact .inr rfl⟩
def full (x : List Int) : Prop := ∀ i, i < x.length → 0 < x.getD i 0
theorem mem_sols {n : Int} {f : List Int → Bool} (hf : ∀ g' g, Le g' g → gridOk g n = true → f g = true → f g' = true) : ∀ (rem : Nat) (g : List Int), rem ≤ g.length → gridOk g n = true → (∀ i, i < g.length - rem → 0 < g.getD i 0) → f g = true → ∀ x, x ∈ sols f n.toNat rem g ↔ gridOk x n = true ∧ Le g x ∧ full x ∧ f x = true := by
  intro rem
  induction rem with
  | zero =>
    intro g hr hg hfu hfg x
    rw [sols, List.mem_singleton]
    constructor
    · rintro rfl
      exact ⟨hg, Le.refl _, fun i hi => hfu i (by omega), hfg⟩
    · rintro ⟨h1, h2, h3, h4⟩
      refine (ext_getD h2.1 fun i hi => ?_).symm
      have := hfu i (by omega)
      rcases h2.2 i with e | e
      · omega
      · exact e
  | succ rem ih =>
    intro g hr hg hfu hfg x
    have hat : g.length - (rem + 1) < g.length := by omega
    obtain ⟨hn, h2, h3⟩ := (gridOk_iff g n).1 hg
    by_cases c : 0 < g.getD (g.length - (rem + 1)) 0
    · rw [sols, if_pos c]
      refine ih g (by omega) hg (fun i hi => ?_) hfg x
      by_cases e : i = g.length - (rem + 1)
      · rw [e]; exact c
      · exact hfu i (by omega)
    · rw [sols, if_neg c, List.mem_flatMap]
      have hv := h3 _ (mem_getD hat)
      have h0 : g.getD (g.length - (rem + 1)) 0 = 0 := by omega
      have go : ∀ v, 1 ≤ v ∧ v ≤ n → f (g.set (g.length - (rem + 1)) v) = true → (x ∈ sols f n.toNat rem (g.set (g.length - (rem + 1)) v) ↔ gridOk x n = true ∧ Le (g.set (g.length - (rem + 1)) v) x ∧ full x ∧ f x = true) := fun v hv1 hfv => by
        refine ih _ (by simp; omega) (grid_set'' hg _ v ⟨by omega, by omega⟩) (fun i hi => ?_) hfv x
        rw [List.length_set] at hi
        rw [getD_set]
        split
        · omega
        · rename_i e
          exact hfu i (by omega)
      constructor
      · rintro ⟨v, hv1, hx⟩
        rw [mem_upto] at hv1
        split at hx
        · rename_i hfv
          obtain ⟨q1, q2, q3, q4⟩ := (go v (by omega) hfv).1 hx
          exact ⟨q1, (Le.set h0 v).trans q2, q3, q4⟩
        · cases hx
      · rintro ⟨q1, q2, q3, q4⟩
        obtain ⟨_, l2, l3⟩ := (gridOk_iff x n).1 q1
        have hlx : g.length - (rem + 1) < x.length := by rw [← q2.1]; exact hat
        have hxv := l3 _ (mem_getD hlx)
        have hxp := q3 _ hlx
        have hup := q2.up hat
        have hfv := hf _ _ hup q1 q4
        refine ⟨x.getD (g.length - (rem + 1)) 0, (mem_upto _ _ _).2 (by omega), ?_⟩
        rw [if_pos hfv]
        exact (go _ (by omega) hfv).2 ⟨q1, hup, q3, q4⟩
theorem puzzleV_grid {n : Int} {given : List Int} {vs : List V} (h : puzzleV n given vs = true) : gridOk given n = true ∧ vs.all (ruleOkV n) = true := by
  unfold puzzleV at h
  simp only [Bool.and_eq_true] at h
  exact ⟨h.1, h.2.2⟩
theorem mem_allSols {n : Int} {given : List Int} {vs : List V} (hp : puzzleV n given vs = true) (x : List Int) : x ∈ allSols n given vs ↔ gridOk x n = true ∧ Le given x ∧ full x ∧ fitsV n given vs x = true := by
  obtain ⟨hg, hv⟩ := puzzleV_grid hp
  have anti : ∀ g' g, Le g' g → gridOk g n = true → fitsV n given vs g = true → fitsV n given vs g' = true := fun g' g h1 h2 h3 => fits_anti h1 h2 hv h3
  unfold allSols
  by_cases c : puzzleFitsV n given vs given = true
  · rw [if_pos c]
    have c' := c
    unfold puzzleFitsV at c'
    simp only [Bool.and_eq_true] at c'
    exact mem_sols anti _ _ (Nat.le_refl _) hg (fun i hi => by omega) c'.2.2 x
  · rw [if_neg c]
    constructor
    · intro h; cases h
    · rintro ⟨h1, h2, h3, h4⟩
      refine absurd ?_ c
      unfold puzzleFitsV
      rw [hp, hg, anti _ _ h2 h1 h4]; rfl
theorem fits_le {n : Int} {a b : List Int} {vs : List V} {g : List Int} (h : Le a b) (hc : fitsV n b vs g = true) : fitsV n a vs g = true := by
  unfold fitsV at hc ⊢
  simp only [Bool.and_eq_true] at hc ⊢
  refine ⟨?_, hc.2⟩
  have h1 := hc.1
  rw [compatB_iff] at h1 ⊢
  intro x hx ha hg1
  rcases h.2 x with e | e
  · omega
  · rw [e] at ha ⊢
    exact h1 x hx ha hg1
/-- Fewer given cells, no fewer solutions. -/
theorem sols_le {n : Int} {a b : List Int} {vs : List V} (h : Le a b) (ha : puzzleV n a vs = true) (hb : puzzleV n b vs = true) {x : List Int} (hx : x ∈ allSols n b vs) : x ∈ allSols n a vs := by
  rw [mem_allSols hb] at hx
  rw [mem_allSols ha]
  exact ⟨hx.1, h.trans hx.2.1, hx.2.2.1, fits_le h hx.2.2.2⟩
theorem take2_one {L : List (List Int)} : (L.take 2).length = 1 ↔ ∃ x, L = [x] := by
  match L with
  | [] => simp
  | [x] => simp
  | x :: y :: L => simp
/-- With one solution each, it is the same. -/
theorem same_sol {n : Int} {a b : List Int} {vs : List V} (h : Le a b) (ha : puzzleV n a vs = true) (hb : puzzleV n b vs = true) (h1 : ((allSols n a vs).take 2).length = 1) (h2 : ((allSols n b vs).take 2).length = 1) : ∃ x, allSols n a vs = [x] ∧ allSols n b vs = [x] := by
  obtain ⟨x, ex⟩ := take2_one.1 h1
  obtain ⟨y, ey⟩ := take2_one.1 h2
  have : y ∈ allSols n a vs := sols_le h ha hb (by rw [ey]; simp)
  rw [ex] at this
  simp at this
  subst this
  exact ⟨y, ex, ey⟩
end Go.Proofs.Ytjojhbdghhmeeaa.Rp
