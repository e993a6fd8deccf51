/- Texts for the row of the law FnNarrowHidden, part 8: the plain machine, the program's functions on it, what they come to. No conditions. -/
import Derived.Test.YtjojhbdghhmeeaaAb
import Derived.Test.YtjojhbdghhmeeaaOr
/- Functions of the program as plain Lean functions. No conditions. -/
set_option linter.unusedVariables false
set_option linter.unusedSimpArgs false
set_option maxRecDepth 100000
namespace Go.Proofs.Ytjojhbdghhmeeaa.Rp
open Go Go.Proofs.Ytjojhbdghhmeeaa.Ab
noncomputable def impl_NarrowHidden.body : Code := (Go.Proofs.Try.f48).body.getD .skip
noncomputable def impl_NarrowHidden.j2 (rec : Rec) (k : Nat) (x5 : Sl) (H : Hp) : An := some (.sl 1 x5, H)
noncomputable def impl_NarrowHidden.j4 (rec : Rec) (k : Nat) (L0 : Sl → Int → Sl → Int → Int → Hp → An) (x0 : Sl) (x1 : Int) (x5 : Sl) (x19 : Int) (x20 : Int) (H : Hp) : An := L0 x0 x1 x5 x19 (IntKind.i64.wrap (x20 + 1)) H
noncomputable def impl_NarrowHidden.j5 (rec : Rec) (k : Nat) (L0 : Sl → Int → Sl → Int → Int → Hp → An) (L1 : Sl → Int → Sl → Int → Int → Int → Int → Hp → An) (L3 : Sl → Int → Sl → Int → Int → Int → Int → Int → Int → Sl → Int → Int → Hp → An) (x0 : Sl) (x1 : Int) (x5 : Sl) (x6 : Int) (x7 : Int) (x8 : Int) (x9 : Int) (x19 : Int) (x20 : Int) (x30 : Sl) (x31 : Int) (x32 : Int) (H : Hp) : An := L3 x0 x1 x5 x6 x7 x8 x9 x19 x20 x30 x31 (IntKind.i64.wrap (x32 + 1)) H
noncomputable def impl_NarrowHidden.j7 (rec : Rec) (k : Nat) (L0 : Sl → Int → Sl → Int → Int → Hp → An) (L1 : Sl → Int → Sl → Int → Int → Int → Int → Hp → An) (x0 : Sl) (x1 : Int) (x5 : Sl) (x6 : Int) (x7 : Int) (x19 : Int) (x20 : Int) (H : Hp) : An := L1 x0 x1 x5 x6 (IntKind.i64.wrap (x7 + 1)) x19 x20 H
noncomputable def impl_NarrowHidden.j6 (rec : Rec) (k : Nat) (L0 : Sl → Int → Sl → Int → Int → Hp → An) (L1 : Sl → Int → Sl → Int → Int → Int → Int → Hp → An) (x0 : Sl) (x1 : Int) (x5 : Sl) (x6 : Int) (x7 : Int) (x8 : Int) (x9 : Int) (x19 : Int) (x20 : Int) (H : Hp) : An := bif x9 == 1 then bif decide (0 ≤ (x8 : Int)) && decide ((x8 : Int) < x5.len) then (ldI .i64 H x5.blk (x5.off + (x8 : Int).toNat * 1)).bind fun n9 => if (x7 : Int) < 0 then none else bif decide (0 ≤ (x8 : Int)) && decide ((x8 : Int) < x5.len) then (H.sto x5.blk (x5.off + (x8 : Int).toNat * 1) [.int .i64 (IntKind.i64.wrap (((BitVec.ofInt IntKind.i64.bits n9 &&& BitVec.ofInt IntKind.i64.bits (IntKind.i64.wrap (1 * 2 ^ (min (x7 : Int).toNat IntKind.i64.bits)))).toNat : Int)))]).bind fun H10 => impl_NarrowHidden.j7 rec k L0 L1 x0 x1 x5 x6 x7 x19 x20 H10 else none else none else impl_NarrowHidden.j7 rec k L0 L1 x0 x1 x5 x6 x7 x19 x20 H
noncomputable def impl_NarrowHidden.l3 (rec : Rec) (k : Nat) (L0 : Sl → Int → Sl → Int → Int → Hp → An) (L1 : Sl → Int → Sl → Int → Int → Int → Int → Hp → An) : Nat → Sl → Int → Sl → Int → Int → Int → Int → Int → Int → Sl → Int → Int → Hp → An
  | 0, _, _, _, _, _, _, _, _, _, _, _, _, _ => none
  | n + 1, x0, x1, x5, x6, x7, x8, x9, x19, x20, x30, x31, x32, H => bif decide (x32 < x31) then bif decide (0 ≤ (x32 : Int)) && decide ((x32 : Int) < x30.len) then (ldI .i64 H x30.blk (x30.off + (x32 : Int).toNat * 1)).bind fun n7 => bif decide (0 ≤ (n7 : Int)) && decide ((n7 : Int) < x0.len) then (ldI .i64 H x0.blk (x0.off + (n7 : Int).toNat * 1)).bind fun n8 => if (x7 : Int) < 0 then none else bif (IntKind.i64.wrap (((BitVec.ofInt IntKind.i64.bits ((n8 : Int).fdiv (2 ^ (min (x7 : Int).toNat IntKind.i64.bits))) &&& BitVec.ofInt IntKind.i64.bits 1).toNat : Int))) == 1 then impl_NarrowHidden.j5 rec k L0 L1 (impl_NarrowHidden.l3 rec k L0 L1 n) x0 x1 x5 x6 x7 n7 (IntKind.i64.wrap (x9 + 1)) x19 x20 x30 x31 x32 H else impl_NarrowHidden.j5 rec k L0 L1 (impl_NarrowHidden.l3 rec k L0 L1 n) x0 x1 x5 x6 x7 x8 x9 x19 x20 x30 x31 x32 H else none else none else impl_NarrowHidden.j6 rec k L0 L1 x0 x1 x5 x6 x7 x8 x9 x19 x20 H
noncomputable def impl_NarrowHidden.l1 (rec : Rec) (k : Nat) (L0 : Sl → Int → Sl → Int → Int → Hp → An) : Nat → Sl → Int → Sl → Int → Int → Int → Int → Hp → An
  | 0, _, _, _, _, _, _, _, _ => none
  | n + 1, x0, x1, x5, x6, x7, x19, x20, H => bif decide (x7 ≤ x1) then (rec impl_LineCells.id [.int .i64 x1, .int .i64 x6] H).bind fun r5 => (r5.1.toS 1).bind fun s6 => impl_NarrowHidden.l3 rec k L0 (impl_NarrowHidden.l1 rec k L0 n) k x0 x1 x5 x6 x7 0 0 x19 x20 s6 (s6.len : Int) 0 r5.2 else impl_NarrowHidden.j4 rec k L0 x0 x1 x5 x19 x20 H
noncomputable def impl_NarrowHidden.l0 (rec : Rec) (k : Nat) : Nat → Sl → Int → Sl → Int → Int → Hp → An
  | 0, _, _, _, _, _, _ => none
  | n + 1, x0, x1, x5, x19, x20, H => bif decide (x20 < x19) then impl_NarrowHidden.l1 rec k (impl_NarrowHidden.l0 rec k n) k x0 x1 x5 x20 1 x19 x20 H else impl_NarrowHidden.j2 rec k x5 H
noncomputable def impl_NarrowHidden.f (rec : Rec) (k : Nat) (a0 : Sl) (a1 : Int) (H : Hp) : An := (rec impl_MasksValid.id [.sl 1 a0, .int .i64 a1] H).bind fun r1 => r1.1.toB.bind fun b2 => bif !b2 then some (.sl 1 Sl.none, r1.2) else (rec slices_Clone_int.id [.sl 1 a0] r1.2).bind fun r3 => (r3.1.toS 1).bind fun s4 => impl_NarrowHidden.l0 rec k k a0 a1 s4 (IntKind.i64.wrap (2 * a1)) 0 r3.2
theorem impl_NarrowHidden.j2_eq (rec : Rec) (k : Nat) : ∀ x5 H, impl_NarrowHidden.j2 rec k x5 H = ex PP (orc impl_NarrowHidden.id) rec k (sub impl_NarrowHidden.body [1, 1, 1, 1]) (St.of 60 [(5, .sl 1 x5)] []) H (kAt PP (orc impl_NarrowHidden.id) rec k impl_NarrowHidden.body [1, 1, 1, 1] [] (K0 PP Go.Proofs.Try.f48)) := by
  intros x5 H
  unfold impl_NarrowHidden.j2
  kernel_rfl
theorem impl_NarrowHidden.j4_eq (rec : Rec) (k : Nat) (n0 : Nat) (L0 : Sl → Int → Sl → Int → Int → Hp → An) (hL0 : ∀ x0 x1 x5 x19 x20 H, L0 x0 x1 x5 x19 x20 H = iter ((orc impl_NarrowHidden.id).at (lbody (sub impl_NarrowHidden.body [1, 1, 1, 0, 1, 0]))) (ex PP (orc impl_NarrowHidden.id) rec k (lbody (sub impl_NarrowHidden.body [1, 1, 1, 0, 1, 0]))) (kAt PP (orc impl_NarrowHidden.id) rec k impl_NarrowHidden.body [1, 1, 1, 0, 1, 0] [] (K0 PP Go.Proofs.Try.f48)) n0 (St.of 60 [(0, .sl 1 x0), (1, .int .i64 x1), (5, .sl 1 x5), (19, .int .i64 x19), (20, .int .i64 x20)] []) H) : ∀ x0 x1 x5 x19 x20 H, impl_NarrowHidden.j4 rec k L0 x0 x1 x5 x19 x20 H = ex PP (orc impl_NarrowHidden.id) rec k (sub impl_NarrowHidden.body [1, 1, 1, 0, 1, 0, 0, 1, 1, 1]) (St.of 60 [(0, .sl 1 x0), (1, .int .i64 x1), (5, .sl 1 x5), (19, .int .i64 x19), (20, .int .i64 x20)] []) H (kAt PP (orc impl_NarrowHidden.id) rec k impl_NarrowHidden.body [1, 1, 1, 0, 1, 0, 0, 1, 1, 1] [n0] (K0 PP Go.Proofs.Try.f48)) := by
  intros x0 x1 x5 x19 x20 H
  unfold impl_NarrowHidden.j4
  try simp only [hL0, -eq_self]
  kernel_rfl
theorem impl_NarrowHidden.j5_eq (rec : Rec) (k : Nat) (n0 : Nat) (L0 : Sl → Int → Sl → Int → Int → Hp → An) (hL0 : ∀ x0 x1 x5 x19 x20 H, L0 x0 x1 x5 x19 x20 H = iter ((orc impl_NarrowHidden.id).at (lbody (sub impl_NarrowHidden.body [1, 1, 1, 0, 1, 0]))) (ex PP (orc impl_NarrowHidden.id) rec k (lbody (sub impl_NarrowHidden.body [1, 1, 1, 0, 1, 0]))) (kAt PP (orc impl_NarrowHidden.id) rec k impl_NarrowHidden.body [1, 1, 1, 0, 1, 0] [] (K0 PP Go.Proofs.Try.f48)) n0 (St.of 60 [(0, .sl 1 x0), (1, .int .i64 x1), (5, .sl 1 x5), (19, .int .i64 x19), (20, .int .i64 x20)] []) H) (n1 : Nat) (L1 : Sl → Int → Sl → Int → Int → Int → Int → Hp → An) (hL1 : ∀ x0 x1 x5 x6 x7 x19 x20 H, L1 x0 x1 x5 x6 x7 x19 x20 H = iter ((orc impl_NarrowHidden.id).at (lbody (sub impl_NarrowHidden.body [1, 1, 1, 0, 1, 0, 0, 1, 1, 0, 0, 1, 1, 0]))) (ex PP (orc impl_NarrowHidden.id) rec k (lbody (sub impl_NarrowHidden.body [1, 1, 1, 0, 1, 0, 0, 1, 1, 0, 0, 1, 1, 0]))) (kAt PP (orc impl_NarrowHidden.id) rec k impl_NarrowHidden.body [1, 1, 1, 0, 1, 0, 0, 1, 1, 0, 0, 1, 1, 0] [n0] (K0 PP Go.Proofs.Try.f48)) n1 (St.of 60 [(0, .sl 1 x0), (1, .int .i64 x1), (5, .sl 1 x5), (6, .int .i64 x6), (7, .int .i64 x7), (19, .int .i64 x19), (20, .int .i64 x20)] []) H) (n3 : Nat) (L3 : Sl → Int → Sl → Int → Int → Int → Int → Int → Int → Sl → Int → Int → Hp → An) (hL3 : ∀ x0 x1 x5 x6 x7 x8 x9 x19 x20 x30 x31 x32 H, L3 x0 x1 x5 x6 x7 x8 x9 x19 x20 x30 x31 x32 H = iter ((orc impl_NarrowHidden.id).at (lbody (sub impl_NarrowHidden.body [1, 1, 1, 0, 1, 0, 0, 1, 1, 0, 0, 1, 1, 0, 0, 1, 0, 0, 1, 0, 1, 0]))) (ex PP (orc impl_NarrowHidden.id) rec k (lbody (sub impl_NarrowHidden.body [1, 1, 1, 0, 1, 0, 0, 1, 1, 0, 0, 1, 1, 0, 0, 1, 0, 0, 1, 0, 1, 0]))) (kAt PP (orc impl_NarrowHidden.id) rec k impl_NarrowHidden.body [1, 1, 1, 0, 1, 0, 0, 1, 1, 0, 0, 1, 1, 0, 0, 1, 0, 0, 1, 0, 1, 0] [n0, n1] (K0 PP Go.Proofs.Try.f48)) n3 (St.of 60 [(0, .sl 1 x0), (1, .int .i64 x1), (5, .sl 1 x5), (6, .int .i64 x6), (7, .int .i64 x7), (8, .int .i64 x8), (9, .int .i64 x9), (19, .int .i64 x19), (20, .int .i64 x20), (30, .sl 1 x30), (31, .int .i64 x31), (32, .int .i64 x32)] []) H) : ∀ x0 x1 x5 x6 x7 x8 x9 x19 x20 x30 x31 x32 H, impl_NarrowHidden.j5 rec k L0 L1 L3 x0 x1 x5 x6 x7 x8 x9 x19 x20 x30 x31 x32 H = ex PP (orc impl_NarrowHidden.id) rec k (sub impl_NarrowHidden.body [1, 1, 1, 0, 1, 0, 0, 1, 1, 0, 0, 1, 1, 0, 0, 1, 0, 0, 1, 0, 1, 0, 0, 1, 1, 1]) (St.of 60 [(0, .sl 1 x0), (1, .int .i64 x1), (5, .sl 1 x5), (6, .int .i64 x6), (7, .int .i64 x7), (8, .int .i64 x8), (9, .int .i64 x9), (19, .int .i64 x19), (20, .int .i64 x20), (30, .sl 1 x30), (31, .int .i64 x31), (32, .int .i64 x32)] []) H (kAt PP (orc impl_NarrowHidden.id) rec k impl_NarrowHidden.body [1, 1, 1, 0, 1, 0, 0, 1, 1, 0, 0, 1, 1, 0, 0, 1, 0, 0, 1, 0, 1, 0, 0, 1, 1, 1] [n0, n1, n3] (K0 PP Go.Proofs.Try.f48)) := by
  intros x0 x1 x5 x6 x7 x8 x9 x19 x20 x30 x31 x32 H
  unfold impl_NarrowHidden.j5
  try simp only [hL0, hL1, hL3, -eq_self]
  kernel_rfl
theorem impl_NarrowHidden.j7_eq (rec : Rec) (k : Nat) (n0 : Nat) (L0 : Sl → Int → Sl → Int → Int → Hp → An) (hL0 : ∀ x0 x1 x5 x19 x20 H, L0 x0 x1 x5 x19 x20 H = iter ((orc impl_NarrowHidden.id).at (lbody (sub impl_NarrowHidden.body [1, 1, 1, 0, 1, 0]))) (ex PP (orc impl_NarrowHidden.id) rec k (lbody (sub impl_NarrowHidden.body [1, 1, 1, 0, 1, 0]))) (kAt PP (orc impl_NarrowHidden.id) rec k impl_NarrowHidden.body [1, 1, 1, 0, 1, 0] [] (K0 PP Go.Proofs.Try.f48)) n0 (St.of 60 [(0, .sl 1 x0), (1, .int .i64 x1), (5, .sl 1 x5), (19, .int .i64 x19), (20, .int .i64 x20)] []) H) (n1 : Nat) (L1 : Sl → Int → Sl → Int → Int → Int → Int → Hp → An) (hL1 : ∀ x0 x1 x5 x6 x7 x19 x20 H, L1 x0 x1 x5 x6 x7 x19 x20 H = iter ((orc impl_NarrowHidden.id).at (lbody (sub impl_NarrowHidden.body [1, 1, 1, 0, 1, 0, 0, 1, 1, 0, 0, 1, 1, 0]))) (ex PP (orc impl_NarrowHidden.id) rec k (lbody (sub impl_NarrowHidden.body [1, 1, 1, 0, 1, 0, 0, 1, 1, 0, 0, 1, 1, 0]))) (kAt PP (orc impl_NarrowHidden.id) rec k impl_NarrowHidden.body [1, 1, 1, 0, 1, 0, 0, 1, 1, 0, 0, 1, 1, 0] [n0] (K0 PP Go.Proofs.Try.f48)) n1 (St.of 60 [(0, .sl 1 x0), (1, .int .i64 x1), (5, .sl 1 x5), (6, .int .i64 x6), (7, .int .i64 x7), (19, .int .i64 x19), (20, .int .i64 x20)] []) H) : ∀ x0 x1 x5 x6 x7 x19 x20 H, impl_NarrowHidden.j7 rec k L0 L1 x0 x1 x5 x6 x7 x19 x20 H = ex PP (orc impl_NarrowHidden.id) rec k (sub impl_NarrowHidden.body [1, 1, 1, 0, 1, 0, 0, 1, 1, 0, 0, 1, 1, 0, 0, 1, 1]) (St.of 60 [(0, .sl 1 x0), (1, .int .i64 x1), (5, .sl 1 x5), (6, .int .i64 x6), (7, .int .i64 x7), (19, .int .i64 x19), (20, .int .i64 x20)] []) H (kAt PP (orc impl_NarrowHidden.id) rec k impl_NarrowHidden.body [1, 1, 1, 0, 1, 0, 0, 1, 1, 0, 0, 1, 1, 0, 0, 1, 1] [n0, n1] (K0 PP Go.Proofs.Try.f48)) := by
  intros x0 x1 x5 x6 x7 x19 x20 H
  unfold impl_NarrowHidden.j7
  try simp only [hL0, hL1, -eq_self]
  kernel_rfl
theorem impl_NarrowHidden.j6_eq (rec : Rec) (k : Nat) (n0 : Nat) (L0 : Sl → Int → Sl → Int → Int → Hp → An) (hL0 : ∀ x0 x1 x5 x19 x20 H, L0 x0 x1 x5 x19 x20 H = iter ((orc impl_NarrowHidden.id).at (lbody (sub impl_NarrowHidden.body [1, 1, 1, 0, 1, 0]))) (ex PP (orc impl_NarrowHidden.id) rec k (lbody (sub impl_NarrowHidden.body [1, 1, 1, 0, 1, 0]))) (kAt PP (orc impl_NarrowHidden.id) rec k impl_NarrowHidden.body [1, 1, 1, 0, 1, 0] [] (K0 PP Go.Proofs.Try.f48)) n0 (St.of 60 [(0, .sl 1 x0), (1, .int .i64 x1), (5, .sl 1 x5), (19, .int .i64 x19), (20, .int .i64 x20)] []) H) (n1 : Nat) (L1 : Sl → Int → Sl → Int → Int → Int → Int → Hp → An) (hL1 : ∀ x0 x1 x5 x6 x7 x19 x20 H, L1 x0 x1 x5 x6 x7 x19 x20 H = iter ((orc impl_NarrowHidden.id).at (lbody (sub impl_NarrowHidden.body [1, 1, 1, 0, 1, 0, 0, 1, 1, 0, 0, 1, 1, 0]))) (ex PP (orc impl_NarrowHidden.id) rec k (lbody (sub impl_NarrowHidden.body [1, 1, 1, 0, 1, 0, 0, 1, 1, 0, 0, 1, 1, 0]))) (kAt PP (orc impl_NarrowHidden.id) rec k impl_NarrowHidden.body [1, 1, 1, 0, 1, 0, 0, 1, 1, 0, 0, 1, 1, 0] [n0] (K0 PP Go.Proofs.Try.f48)) n1 (St.of 60 [(0, .sl 1 x0), (1, .int .i64 x1), (5, .sl 1 x5), (6, .int .i64 x6), (7, .int .i64 x7), (19, .int .i64 x19), (20, .int .i64 x20)] []) H) : ∀ x0 x1 x5 x6 x7 x8 x9 x19 x20 H, impl_NarrowHidden.j6 rec k L0 L1 x0 x1 x5 x6 x7 x8 x9 x19 x20 H = ex PP (orc impl_NarrowHidden.id) rec k (sub impl_NarrowHidden.body [1, 1, 1, 0, 1, 0, 0, 1, 1, 0, 0, 1, 1, 0, 0, 1, 0, 0, 1, 1]) (St.of 60 [(0, .sl 1 x0), (1, .int .i64 x1), (5, .sl 1 x5), (6, .int .i64 x6), (7, .int .i64 x7), (8, .int .i64 x8), (9, .int .i64 x9), (19, .int .i64 x19), (20, .int .i64 x20)] []) H (kAt PP (orc impl_NarrowHidden.id) rec k impl_NarrowHidden.body [1, 1, 1, 0, 1, 0, 0, 1, 1, 0, 0, 1, 1, 0, 0, 1, 0, 0, 1, 1] [n0, n1] (K0 PP Go.Proofs.Try.f48)) := by
  intros x0 x1 x5 x6 x7 x8 x9 x19 x20 H
  unfold impl_NarrowHidden.j6
  try simp only [hL0, hL1, impl_NarrowHidden.j7_eq rec k n0 L0 hL0 n1 L1 hL1, -eq_self]
  kernel_rfl
theorem impl_NarrowHidden.l3_eq (rec : Rec) (k : Nat) (n0 : Nat) (L0 : Sl → Int → Sl → Int → Int → Hp → An) (hL0 : ∀ x0 x1 x5 x19 x20 H, L0 x0 x1 x5 x19 x20 H = iter ((orc impl_NarrowHidden.id).at (lbody (sub impl_NarrowHidden.body [1, 1, 1, 0, 1, 0]))) (ex PP (orc impl_NarrowHidden.id) rec k (lbody (sub impl_NarrowHidden.body [1, 1, 1, 0, 1, 0]))) (kAt PP (orc impl_NarrowHidden.id) rec k impl_NarrowHidden.body [1, 1, 1, 0, 1, 0] [] (K0 PP Go.Proofs.Try.f48)) n0 (St.of 60 [(0, .sl 1 x0), (1, .int .i64 x1), (5, .sl 1 x5), (19, .int .i64 x19), (20, .int .i64 x20)] []) H) (n1 : Nat) (L1 : Sl → Int → Sl → Int → Int → Int → Int → Hp → An) (hL1 : ∀ x0 x1 x5 x6 x7 x19 x20 H, L1 x0 x1 x5 x6 x7 x19 x20 H = iter ((orc impl_NarrowHidden.id).at (lbody (sub impl_NarrowHidden.body [1, 1, 1, 0, 1, 0, 0, 1, 1, 0, 0, 1, 1, 0]))) (ex PP (orc impl_NarrowHidden.id) rec k (lbody (sub impl_NarrowHidden.body [1, 1, 1, 0, 1, 0, 0, 1, 1, 0, 0, 1, 1, 0]))) (kAt PP (orc impl_NarrowHidden.id) rec k impl_NarrowHidden.body [1, 1, 1, 0, 1, 0, 0, 1, 1, 0, 0, 1, 1, 0] [n0] (K0 PP Go.Proofs.Try.f48)) n1 (St.of 60 [(0, .sl 1 x0), (1, .int .i64 x1), (5, .sl 1 x5), (6, .int .i64 x6), (7, .int .i64 x7), (19, .int .i64 x19), (20, .int .i64 x20)] []) H) : ∀ n x0 x1 x5 x6 x7 x8 x9 x19 x20 x30 x31 x32 H, impl_NarrowHidden.l3 rec k L0 L1 n x0 x1 x5 x6 x7 x8 x9 x19 x20 x30 x31 x32 H = iter ((orc impl_NarrowHidden.id).at (lbody (sub impl_NarrowHidden.body [1, 1, 1, 0, 1, 0, 0, 1, 1, 0, 0, 1, 1, 0, 0, 1, 0, 0, 1, 0, 1, 0]))) (ex PP (orc impl_NarrowHidden.id) rec k (lbody (sub impl_NarrowHidden.body [1, 1, 1, 0, 1, 0, 0, 1, 1, 0, 0, 1, 1, 0, 0, 1, 0, 0, 1, 0, 1, 0]))) (kAt PP (orc impl_NarrowHidden.id) rec k impl_NarrowHidden.body [1, 1, 1, 0, 1, 0, 0, 1, 1, 0, 0, 1, 1, 0, 0, 1, 0, 0, 1, 0, 1, 0] [n0, n1] (K0 PP Go.Proofs.Try.f48)) n (St.of 60 [(0, .sl 1 x0), (1, .int .i64 x1), (5, .sl 1 x5), (6, .int .i64 x6), (7, .int .i64 x7), (8, .int .i64 x8), (9, .int .i64 x9), (19, .int .i64 x19), (20, .int .i64 x20), (30, .sl 1 x30), (31, .int .i64 x31), (32, .int .i64 x32)] []) H := by
  intro n
  induction n with
  | zero => intros; rfl
  | succ n ih =>
    intros x0 x1 x5 x6 x7 x8 x9 x19 x20 x30 x31 x32 H
    simp only [impl_NarrowHidden.l3, hL0, hL1, impl_NarrowHidden.j5_eq rec k n0 L0 hL0 n1 L1 hL1 n (impl_NarrowHidden.l3 rec k L0 L1 n) (fun x0 x1 x5 x6 x7 x8 x9 x19 x20 x30 x31 x32 H => ih x0 x1 x5 x6 x7 x8 x9 x19 x20 x30 x31 x32 H), impl_NarrowHidden.j6_eq rec k n0 L0 hL0 n1 L1 hL1, ih, -eq_self]
    kernel_rfl
theorem impl_NarrowHidden.l1_eq (rec : Rec) (k : Nat) (n0 : Nat) (L0 : Sl → Int → Sl → Int → Int → Hp → An) (hL0 : ∀ x0 x1 x5 x19 x20 H, L0 x0 x1 x5 x19 x20 H = iter ((orc impl_NarrowHidden.id).at (lbody (sub impl_NarrowHidden.body [1, 1, 1, 0, 1, 0]))) (ex PP (orc impl_NarrowHidden.id) rec k (lbody (sub impl_NarrowHidden.body [1, 1, 1, 0, 1, 0]))) (kAt PP (orc impl_NarrowHidden.id) rec k impl_NarrowHidden.body [1, 1, 1, 0, 1, 0] [] (K0 PP Go.Proofs.Try.f48)) n0 (St.of 60 [(0, .sl 1 x0), (1, .int .i64 x1), (5, .sl 1 x5), (19, .int .i64 x19), (20, .int .i64 x20)] []) H) : ∀ n x0 x1 x5 x6 x7 x19 x20 H, impl_NarrowHidden.l1 rec k L0 n x0 x1 x5 x6 x7 x19 x20 H = iter ((orc impl_NarrowHidden.id).at (lbody (sub impl_NarrowHidden.body [1, 1, 1, 0, 1, 0, 0, 1, 1, 0, 0, 1, 1, 0]))) (ex PP (orc impl_NarrowHidden.id) rec k (lbody (sub impl_NarrowHidden.body [1, 1, 1, 0, 1, 0, 0, 1, 1, 0, 0, 1, 1, 0]))) (kAt PP (orc impl_NarrowHidden.id) rec k impl_NarrowHidden.body [1, 1, 1, 0, 1, 0, 0, 1, 1, 0, 0, 1, 1, 0] [n0] (K0 PP Go.Proofs.Try.f48)) n (St.of 60 [(0, .sl 1 x0), (1, .int .i64 x1), (5, .sl 1 x5), (6, .int .i64 x6), (7, .int .i64 x7), (19, .int .i64 x19), (20, .int .i64 x20)] []) H := by
  intro n
  induction n with
  | zero => intros; rfl
  | succ n ih =>
    intros x0 x1 x5 x6 x7 x19 x20 H
    simp only [impl_NarrowHidden.l1, hL0, impl_NarrowHidden.l3_eq rec k n0 L0 hL0 n (impl_NarrowHidden.l1 rec k L0 n) (fun x0 x1 x5 x6 x7 x19 x20 H => ih x0 x1 x5 x6 x7 x19 x20 H), impl_NarrowHidden.j4_eq rec k n0 L0 hL0, ih, -eq_self]
    kernel_rfl
theorem impl_NarrowHidden.l0_eq (rec : Rec) (k : Nat) : ∀ n x0 x1 x5 x19 x20 H, impl_NarrowHidden.l0 rec k n x0 x1 x5 x19 x20 H = iter ((orc impl_NarrowHidden.id).at (lbody (sub impl_NarrowHidden.body [1, 1, 1, 0, 1, 0]))) (ex PP (orc impl_NarrowHidden.id) rec k (lbody (sub impl_NarrowHidden.body [1, 1, 1, 0, 1, 0]))) (kAt PP (orc impl_NarrowHidden.id) rec k impl_NarrowHidden.body [1, 1, 1, 0, 1, 0] [] (K0 PP Go.Proofs.Try.f48)) n (St.of 60 [(0, .sl 1 x0), (1, .int .i64 x1), (5, .sl 1 x5), (19, .int .i64 x19), (20, .int .i64 x20)] []) H := by
  intro n
  induction n with
  | zero => intros; rfl
  | succ n ih =>
    intros x0 x1 x5 x19 x20 H
    simp only [impl_NarrowHidden.l0, impl_NarrowHidden.l1_eq rec k n (impl_NarrowHidden.l0 rec k n) (fun x0 x1 x5 x19 x20 H => ih x0 x1 x5 x19 x20 H), impl_NarrowHidden.j2_eq rec k, ih, -eq_self]
    kernel_rfl
theorem impl_NarrowHidden.f_eq (rec : Rec) (k : Nat) : ∀ a0 a1 H, impl_NarrowHidden.f rec k a0 a1 H = ex PP (orc impl_NarrowHidden.id) rec k impl_NarrowHidden.body (St.of 60 [(0, .sl 1 a0), (1, .int .i64 a1)] []) H (K0 PP Go.Proofs.Try.f48) := by
  intros a0 a1 H
  unfold impl_NarrowHidden.f
  try simp only [impl_NarrowHidden.l0_eq rec k, -eq_self]
  kernel_rfl
theorem impl_NarrowHidden.call (k : Nat) : ∀ a0 a1 H, callF PP orc (k + 1) impl_NarrowHidden.id [.sl 1 a0, .int .i64 a1] H = impl_NarrowHidden.f (callF PP orc k) k a0 a1 H := by
  intros a0 a1 H
  rw [callF_at (fn := Go.Proofs.Try.f48) (c := impl_NarrowHidden.body) Go.Proofs.Try.func48 (by kernel_rfl) (Nat.le_of_ble_eq_true (by kernel_rfl)), impl_NarrowHidden.f_eq]
  kernel_rfl
end Go.Proofs.Ytjojhbdghhmeeaa.Rp
/- Functions of the program as plain Lean functions. No conditions. -/
set_option linter.unusedVariables false
set_option linter.unusedSimpArgs false
set_option maxRecDepth 100000
namespace Go.Proofs.Ytjojhbdghhmeeaa.Rp
open Go Go.Proofs.Ytjojhbdghhmeeaa.Ab
noncomputable def laws_sameInts.body : Code := (Go.Proofs.Try.f32).body.getD .skip
noncomputable def laws_sameInts.l0 (rec : Rec) (k : Nat) : Nat → Sl → Sl → Int → Hp → An
  | 0, _, _, _, _ => none
  | n + 1, x0, x1, x5, H => bif decide (x5 < (x0.len : Int)) then bif decide (0 ≤ (x5 : Int)) && decide ((x5 : Int) < x0.len) then (ldI .i64 H x0.blk (x0.off + (x5 : Int).toNat * 1)).bind fun n1 => bif decide (0 ≤ (x5 : Int)) && decide ((x5 : Int) < x1.len) then (ldI .i64 H x1.blk (x1.off + (x5 : Int).toNat * 1)).bind fun n2 => bif n1 != n2 then some (.bool false, H) else (laws_sameInts.l0 rec k n) x0 x1 (IntKind.i64.wrap (x5 + 1)) H else none else none else some (.bool true, H)
noncomputable def laws_sameInts.f (rec : Rec) (k : Nat) (a0 : Sl) (a1 : Sl) (H : Hp) : An := bif (a0.len : Int) != (a1.len : Int) then some (.bool false, H) else laws_sameInts.l0 rec k k a0 a1 0 H
theorem laws_sameInts.l0_eq (rec : Rec) (k : Nat) : ∀ n x0 x1 x5 H, laws_sameInts.l0 rec k n x0 x1 x5 H = iter ((orc laws_sameInts.id).at (lbody (sub laws_sameInts.body [1, 1, 0, 1, 0]))) (ex PP (orc laws_sameInts.id) rec k (lbody (sub laws_sameInts.body [1, 1, 0, 1, 0]))) (kAt PP (orc laws_sameInts.id) rec k laws_sameInts.body [1, 1, 0, 1, 0] [] (K0 PP Go.Proofs.Try.f32)) n (St.of 26 [(0, .sl 1 x0), (1, .sl 1 x1), (5, .int .i64 x5)] []) H := by
  intro n
  induction n with
  | zero => intros; rfl
  | succ n ih =>
    intros x0 x1 x5 H
    simp only [laws_sameInts.l0, ih, -eq_self]
    kernel_rfl
theorem laws_sameInts.f_eq (rec : Rec) (k : Nat) : ∀ a0 a1 H, laws_sameInts.f rec k a0 a1 H = ex PP (orc laws_sameInts.id) rec k laws_sameInts.body (St.of 26 [(0, .sl 1 a0), (1, .sl 1 a1)] []) H (K0 PP Go.Proofs.Try.f32) := by
  intros a0 a1 H
  unfold laws_sameInts.f
  try simp only [laws_sameInts.l0_eq rec k, -eq_self]
  kernel_rfl
theorem laws_sameInts.call (k : Nat) : ∀ a0 a1 H, callF PP orc (k + 1) laws_sameInts.id [.sl 1 a0, .sl 1 a1] H = laws_sameInts.f (callF PP orc k) k a0 a1 H := by
  intros a0 a1 H
  rw [callF_at (fn := Go.Proofs.Try.f32) (c := laws_sameInts.body) Go.Proofs.Try.func32 (by kernel_rfl) (Nat.le_of_ble_eq_true (by kernel_rfl)), laws_sameInts.f_eq]
  kernel_rfl
end Go.Proofs.Ytjojhbdghhmeeaa.Rp
/- Functions of the program as plain Lean functions. No conditions. -/
set_option linter.unusedVariables false
set_option linter.unusedSimpArgs false
set_option maxRecDepth 100000
namespace Go.Proofs.Ytjojhbdghhmeeaa.Rp
open Go Go.Proofs.Ytjojhbdghhmeeaa.Ab
noncomputable def laws_within.body : Code := (Go.Proofs.Try.f39).body.getD .skip
noncomputable def laws_within.l0 (rec : Rec) (k : Nat) : Nat → Sl → Sl → Int → Hp → An
  | 0, _, _, _, _ => none
  | n + 1, x0, x1, x5, H => bif decide (x5 < (x0.len : Int)) then bif decide (0 ≤ (x5 : Int)) && decide ((x5 : Int) < x0.len) then (ldI .i64 H x0.blk (x0.off + (x5 : Int).toNat * 1)).bind fun n1 => bif decide (0 ≤ (x5 : Int)) && decide ((x5 : Int) < x1.len) then (ldI .i64 H x1.blk (x1.off + (x5 : Int).toNat * 1)).bind fun n2 => bif (IntKind.i64.wrap (((BitVec.ofInt IntKind.i64.bits n1 &&& ~~~ (BitVec.ofInt IntKind.i64.bits n2)).toNat : Int))) != 0 then some (.bool false, H) else (laws_within.l0 rec k n) x0 x1 (IntKind.i64.wrap (x5 + 1)) H else none else none else some (.bool true, H)
noncomputable def laws_within.f (rec : Rec) (k : Nat) (a0 : Sl) (a1 : Sl) (H : Hp) : An := bif (a0.len : Int) != (a1.len : Int) then some (.bool false, H) else laws_within.l0 rec k k a0 a1 0 H
theorem laws_within.l0_eq (rec : Rec) (k : Nat) : ∀ n x0 x1 x5 H, laws_within.l0 rec k n x0 x1 x5 H = iter ((orc laws_within.id).at (lbody (sub laws_within.body [1, 1, 0, 1, 0]))) (ex PP (orc laws_within.id) rec k (lbody (sub laws_within.body [1, 1, 0, 1, 0]))) (kAt PP (orc laws_within.id) rec k laws_within.body [1, 1, 0, 1, 0] [] (K0 PP Go.Proofs.Try.f39)) n (St.of 27 [(0, .sl 1 x0), (1, .sl 1 x1), (5, .int .i64 x5)] []) H := by
  intro n
  induction n with
  | zero => intros; rfl
  | succ n ih =>
    intros x0 x1 x5 H
    simp only [laws_within.l0, ih, -eq_self]
    kernel_rfl
theorem laws_within.f_eq (rec : Rec) (k : Nat) : ∀ a0 a1 H, laws_within.f rec k a0 a1 H = ex PP (orc laws_within.id) rec k laws_within.body (St.of 27 [(0, .sl 1 a0), (1, .sl 1 a1)] []) H (K0 PP Go.Proofs.Try.f39) := by
  intros a0 a1 H
  unfold laws_within.f
  try simp only [laws_within.l0_eq rec k, -eq_self]
  kernel_rfl
theorem laws_within.call (k : Nat) : ∀ a0 a1 H, callF PP orc (k + 1) laws_within.id [.sl 1 a0, .sl 1 a1] H = laws_within.f (callF PP orc k) k a0 a1 H := by
  intros a0 a1 H
  rw [callF_at (fn := Go.Proofs.Try.f39) (c := laws_within.body) Go.Proofs.Try.func39 (by kernel_rfl) (Nat.le_of_ble_eq_true (by kernel_rfl)), laws_within.f_eq]
  kernel_rfl
noncomputable def laws_keeps.body : Code := (Go.Proofs.Try.f40).body.getD .skip
noncomputable def laws_keeps.j2 (rec : Rec) (k : Nat) (L0 : Sl → Sl → Int → Int → Hp → An) (x0 : Sl) (x1 : Sl) (x2 : Int) (x7 : Int) (H : Hp) : An := L0 x0 x1 x2 (IntKind.i64.wrap (x7 + 1)) H
noncomputable def laws_keeps.j1 (rec : Rec) (k : Nat) (L0 : Sl → Sl → Int → Int → Hp → An) (x0 : Sl) (x1 : Sl) (x2 : Int) (x7 : Int) (x29 : Bool) (H : Hp) : An := bif x29 then some (.bool false, H) else laws_keeps.j2 rec k L0 x0 x1 x2 x7 H
noncomputable def laws_keeps.l0 (rec : Rec) (k : Nat) : Nat → Sl → Sl → Int → Int → Hp → An
  | 0, _, _, _, _, _ => none
  | n + 1, x0, x1, x2, x7, H => bif decide (x7 < 14) then (rec spec_SquareNumber.id [.int .i64 x2, .int .i64 x7] H).bind fun r1 => (r1.1.toS 1).bind fun s2 => bif (s2.len : Int) == 0 then some (.bool true, r1.2) else (rec spec_MasksHave.id [.sl 1 x0, .int .i64 x2, .sl 1 s2] r1.2).bind fun r3 => r3.1.toB.bind fun b4 => bif b4 then (rec impl_MasksHave.id [.sl 1 x1, .int .i64 x2, .sl 1 s2] r3.2).bind fun r5 => r5.1.toB.bind fun b6 => laws_keeps.j1 rec k (laws_keeps.l0 rec k n) x0 x1 x2 x7 (!b6) r5.2 else laws_keeps.j1 rec k (laws_keeps.l0 rec k n) x0 x1 x2 x7 false r3.2 else some (.bool true, H)
noncomputable def laws_keeps.f (rec : Rec) (k : Nat) (a0 : Sl) (a1 : Sl) (a2 : Int) (H : Hp) : An := laws_keeps.l0 rec k k a0 a1 a2 0 H
theorem laws_keeps.j2_eq (rec : Rec) (k : Nat) (n0 : Nat) (L0 : Sl → Sl → Int → Int → Hp → An) (hL0 : ∀ x0 x1 x2 x7 H, L0 x0 x1 x2 x7 H = iter ((orc laws_keeps.id).at (lbody (sub laws_keeps.body [1, 0, 1, 0]))) (ex PP (orc laws_keeps.id) rec k (lbody (sub laws_keeps.body [1, 0, 1, 0]))) (kAt PP (orc laws_keeps.id) rec k laws_keeps.body [1, 0, 1, 0] [] (K0 PP Go.Proofs.Try.f40)) n0 (St.of 30 [(0, .sl 1 x0), (1, .sl 1 x1), (2, .int .i64 x2), (7, .int .i64 x7)] []) H) : ∀ x0 x1 x2 x7 H, laws_keeps.j2 rec k L0 x0 x1 x2 x7 H = ex PP (orc laws_keeps.id) rec k (sub laws_keeps.body [1, 0, 1, 0, 0, 1, 1]) (St.of 30 [(0, .sl 1 x0), (1, .sl 1 x1), (2, .int .i64 x2), (7, .int .i64 x7)] []) H (kAt PP (orc laws_keeps.id) rec k laws_keeps.body [1, 0, 1, 0, 0, 1, 1] [n0] (K0 PP Go.Proofs.Try.f40)) := by
  intros x0 x1 x2 x7 H
  unfold laws_keeps.j2
  try simp only [hL0, -eq_self]
  kernel_rfl
theorem laws_keeps.j1_eq (rec : Rec) (k : Nat) (n0 : Nat) (L0 : Sl → Sl → Int → Int → Hp → An) (hL0 : ∀ x0 x1 x2 x7 H, L0 x0 x1 x2 x7 H = iter ((orc laws_keeps.id).at (lbody (sub laws_keeps.body [1, 0, 1, 0]))) (ex PP (orc laws_keeps.id) rec k (lbody (sub laws_keeps.body [1, 0, 1, 0]))) (kAt PP (orc laws_keeps.id) rec k laws_keeps.body [1, 0, 1, 0] [] (K0 PP Go.Proofs.Try.f40)) n0 (St.of 30 [(0, .sl 1 x0), (1, .sl 1 x1), (2, .int .i64 x2), (7, .int .i64 x7)] []) H) : ∀ x0 x1 x2 x7 x29 H, laws_keeps.j1 rec k L0 x0 x1 x2 x7 x29 H = ex PP (orc laws_keeps.id) rec k (sub laws_keeps.body [1, 0, 1, 0, 0, 1, 0, 0, 1, 1, 1]) (St.of 30 [(0, .sl 1 x0), (1, .sl 1 x1), (2, .int .i64 x2), (7, .int .i64 x7), (29, .bool x29)] []) H (kAt PP (orc laws_keeps.id) rec k laws_keeps.body [1, 0, 1, 0, 0, 1, 0, 0, 1, 1, 1] [n0] (K0 PP Go.Proofs.Try.f40)) := by
  intros x0 x1 x2 x7 x29 H
  unfold laws_keeps.j1
  try simp only [hL0, laws_keeps.j2_eq rec k n0 L0 hL0, -eq_self]
  kernel_rfl
theorem laws_keeps.l0_eq (rec : Rec) (k : Nat) : ∀ n x0 x1 x2 x7 H, laws_keeps.l0 rec k n x0 x1 x2 x7 H = iter ((orc laws_keeps.id).at (lbody (sub laws_keeps.body [1, 0, 1, 0]))) (ex PP (orc laws_keeps.id) rec k (lbody (sub laws_keeps.body [1, 0, 1, 0]))) (kAt PP (orc laws_keeps.id) rec k laws_keeps.body [1, 0, 1, 0] [] (K0 PP Go.Proofs.Try.f40)) n (St.of 30 [(0, .sl 1 x0), (1, .sl 1 x1), (2, .int .i64 x2), (7, .int .i64 x7)] []) H := by
  intro n
  induction n with
  | zero => intros; rfl
  | succ n ih =>
    intros x0 x1 x2 x7 H
    simp only [laws_keeps.l0, laws_keeps.j1_eq rec k n (laws_keeps.l0 rec k n) (fun x0 x1 x2 x7 H => ih x0 x1 x2 x7 H), ih, -eq_self]
    kernel_rfl
theorem laws_keeps.f_eq (rec : Rec) (k : Nat) : ∀ a0 a1 a2 H, laws_keeps.f rec k a0 a1 a2 H = ex PP (orc laws_keeps.id) rec k laws_keeps.body (St.of 30 [(0, .sl 1 a0), (1, .sl 1 a1), (2, .int .i64 a2)] []) H (K0 PP Go.Proofs.Try.f40) := by
  intros a0 a1 a2 H
  unfold laws_keeps.f
  try simp only [laws_keeps.l0_eq rec k, -eq_self]
  kernel_rfl
theorem laws_keeps.call (k : Nat) : ∀ a0 a1 a2 H, callF PP orc (k + 1) laws_keeps.id [.sl 1 a0, .sl 1 a1, .int .i64 a2] H = laws_keeps.f (callF PP orc k) k a0 a1 a2 H := by
  intros a0 a1 a2 H
  rw [callF_at (fn := Go.Proofs.Try.f40) (c := laws_keeps.body) Go.Proofs.Try.func40 (by kernel_rfl) (Nat.le_of_ble_eq_true (by kernel_rfl)), laws_keeps.f_eq]
  kernel_rfl
end Go.Proofs.Ytjojhbdghhmeeaa.Rp
/- Functions of the program as plain Lean functions. No conditions. -/
set_option linter.unusedVariables false
set_option linter.unusedSimpArgs false
set_option maxRecDepth 100000
namespace Go.Proofs.Ytjojhbdghhmeeaa.Rp
open Go Go.Proofs.Ytjojhbdghhmeeaa.Ab
noncomputable def laws_FnNarrowHidden.body : Code := (Go.Proofs.Try.f10).body.getD .skip
noncomputable def laws_FnNarrowHidden.f (rec : Rec) (k : Nat) (a0 : Sl) (H : Hp) : An := bif decide ((a0.len : Int) > 1048576) then some (.bool true, H) else (rec spec_DrawNarrowHidden.id [.sl 1 a0] H).bind fun r1 => bif r1.1.isTup 2 then ((r1.1.nth 0).toS 1).bind fun s2 => ((r1.1.nth 1).toI .i64).bind fun n3 => (rec impl_NarrowHidden.id [.sl 1 s2, .int .i64 n3] r1.2).bind fun r4 => (r4.1.toS 1).bind fun s5 => (rec spec_NarrowHidden.id [.sl 1 s2, .int .i64 n3] r4.2).bind fun r6 => (r6.1.toS 1).bind fun s7 => (rec laws_sameInts.id [.sl 1 s5, .sl 1 s7] r6.2).bind fun r8 => r8.1.toB.bind fun b9 => bif !b9 then some (.bool false, r8.2) else (rec spec_MasksValid.id [.sl 1 s2, .int .i64 n3] r8.2).bind fun r10 => r10.1.toB.bind fun b11 => bif !b11 then bif (s5.len : Int) == 0 then (rec laws_alive.id [] r10.2).bind fun r12 => r12.1.toB.bind fun b13 => some (.bool b13, r12.2) else some (.bool false, r10.2) else (rec laws_within.id [.sl 1 s5, .sl 1 s2] r10.2).bind fun r14 => r14.1.toB.bind fun b15 => bif b15 then (rec laws_keeps.id [.sl 1 s2, .sl 1 s5, .int .i64 n3] r14.2).bind fun r16 => r16.1.toB.bind fun b17 => some (.bool b17, r16.2) else some (.bool false, r14.2) else none
theorem laws_FnNarrowHidden.f_eq (rec : Rec) (k : Nat) : ∀ a0 H, laws_FnNarrowHidden.f rec k a0 H = ex PP (orc laws_FnNarrowHidden.id) rec k laws_FnNarrowHidden.body (St.of 42 [(0, .sl 1 a0)] []) H (K0 PP Go.Proofs.Try.f10) := by
  intros a0 H
  unfold laws_FnNarrowHidden.f
  kernel_rfl
theorem laws_FnNarrowHidden.call (k : Nat) : ∀ a0 H, callF PP orc (k + 1) laws_FnNarrowHidden.id [.sl 1 a0] H = laws_FnNarrowHidden.f (callF PP orc k) k a0 H := by
  intros a0 H
  rw [callF_at (fn := Go.Proofs.Try.f10) (c := laws_FnNarrowHidden.body) Go.Proofs.Try.func10 (by kernel_rfl) (Nat.le_of_ble_eq_true (by kernel_rfl)), laws_FnNarrowHidden.f_eq]
  kernel_rfl
noncomputable def spec_DrawNarrowHidden.body : Code := (Go.Proofs.Try.f47).body.getD .skip
noncomputable def spec_DrawNarrowHidden.f (rec : Rec) (k : Nat) (a0 : Sl) (H : Hp) : An := (rec spec_l20Open.id [.sl 1 a0] H).bind fun r1 => r1.1.toP.bind fun p2 => (rec spec_l20Masks.id [.ptr p2.1 p2.2, .int .i64 12] r1.2).bind fun r3 => bif r3.1.isTup 2 then ((r3.1.nth 0).toS 1).bind fun s4 => ((r3.1.nth 1).toI .i64).bind fun n5 => some (.tup [.sl 1 s4, .int .i64 n5], r3.2) else none
theorem spec_DrawNarrowHidden.f_eq (rec : Rec) (k : Nat) : ∀ a0 H, spec_DrawNarrowHidden.f rec k a0 H = ex PP (orc spec_DrawNarrowHidden.id) rec k spec_DrawNarrowHidden.body (St.of 9 [(0, .sl 1 a0)] []) H (K0 PP Go.Proofs.Try.f47) := by
  intros a0 H
  unfold spec_DrawNarrowHidden.f
  kernel_rfl
theorem spec_DrawNarrowHidden.call (k : Nat) : ∀ a0 H, callF PP orc (k + 1) spec_DrawNarrowHidden.id [.sl 1 a0] H = spec_DrawNarrowHidden.f (callF PP orc k) k a0 H := by
  intros a0 H
  rw [callF_at (fn := Go.Proofs.Try.f47) (c := spec_DrawNarrowHidden.body) Go.Proofs.Try.func47 (by kernel_rfl) (Nat.le_of_ble_eq_true (by kernel_rfl)), spec_DrawNarrowHidden.f_eq]
  kernel_rfl
end Go.Proofs.Ytjojhbdghhmeeaa.Rp
