/- Texts for the row of the law FnNarrowSingles, part 8: the plain machine, the program's functions on it, what they come to. No conditions. -/
import Derived.Test.YtjojhbdghhmeeaaAb
import Derived.Test.YtjojhbdghhmeeaaOr
/- Functions of the program as plain Lean functions. No conditions. -/
set_option linter.unusedVariables false
set_option linter.unusedSimpArgs false
set_option maxRecDepth 100000
namespace Go.Proofs.Ytjojhbdghhmeeaa.Rp
open Go Go.Proofs.Ytjojhbdghhmeeaa.Ab
noncomputable def impl_NarrowSingles.body : Code := (Go.Proofs.Try.f37).body.getD .skip
noncomputable def impl_NarrowSingles.j1 (rec : Rec) (k : Nat) (L0 : Int → Sl → Sl → Int → Int → Hp → An) (x1 : Int) (x5 : Sl) (x17 : Sl) (x18 : Int) (x19 : Int) (H : Hp) : An := L0 x1 x5 x17 x18 (IntKind.i64.wrap (x19 + 1)) H
noncomputable def impl_NarrowSingles.j3 (rec : Rec) (k : Nat) (x5 : Sl) (H : Hp) : An := some (.sl 1 x5, H)
noncomputable def impl_NarrowSingles.j5 (rec : Rec) (k : Nat) (L0 : Int → Sl → Sl → Int → Int → Hp → An) (L2 : Int → Sl → Int → Int → Sl → Int → Int → Int → Int → Hp → An) (L4 : Int → Sl → Int → Int → Sl → Int → Int → Int → Int → Sl → Int → Int → Hp → An) (x1 : Int) (x5 : Sl) (x6 : Int) (x7 : Int) (x17 : Sl) (x18 : Int) (x19 : Int) (x27 : Int) (x28 : Int) (x45 : Sl) (x46 : Int) (x47 : Int) (H : Hp) : An := L4 x1 x5 x6 x7 x17 x18 x19 x27 x28 x45 x46 (IntKind.i64.wrap (x47 + 1)) H
noncomputable def impl_NarrowSingles.j6 (rec : Rec) (k : Nat) (L0 : Int → Sl → Sl → Int → Int → Hp → An) (L2 : Int → Sl → Int → Int → Sl → Int → Int → Int → Int → Hp → An) (x1 : Int) (x5 : Sl) (x6 : Int) (x7 : Int) (x17 : Sl) (x18 : Int) (x19 : Int) (x27 : Int) (x28 : Int) (H : Hp) : An := L2 x1 x5 x6 x7 x17 x18 x19 x27 (IntKind.i64.wrap (x28 + 1)) H
noncomputable def impl_NarrowSingles.l4 (rec : Rec) (k : Nat) (L0 : Int → Sl → Sl → Int → Int → Hp → An) (L2 : Int → Sl → Int → Int → Sl → Int → Int → Int → Int → Hp → An) : Nat → Int → Sl → Int → Int → Sl → Int → Int → Int → Int → Sl → Int → Int → Hp → An
  | 0, _, _, _, _, _, _, _, _, _, _, _, _, _ => none
  | n + 1, x1, x5, x6, x7, x17, x18, x19, x27, x28, x45, x46, x47, H => bif decide (x47 < x46) then bif decide (0 ≤ (x47 : Int)) && decide ((x47 : Int) < x45.len) then (ldI .i64 H x45.blk (x45.off + (x47 : Int).toNat * 1)).bind fun n8 => bif n8 != x6 then bif decide (0 ≤ (n8 : Int)) && decide ((n8 : Int) < x5.len) then (ldI .i64 H x5.blk (x5.off + (n8 : Int).toNat * 1)).bind fun n9 => bif decide (0 ≤ (n8 : Int)) && decide ((n8 : Int) < x5.len) then (H.sto x5.blk (x5.off + (n8 : Int).toNat * 1) [.int .i64 (IntKind.i64.wrap (((BitVec.ofInt IntKind.i64.bits n9 &&& ~~~ (BitVec.ofInt IntKind.i64.bits x7)).toNat : Int)))]).bind fun H10 => impl_NarrowSingles.j5 rec k L0 L2 (impl_NarrowSingles.l4 rec k L0 L2 n) x1 x5 x6 x7 x17 x18 x19 x27 x28 x45 x46 x47 H10 else none else none else impl_NarrowSingles.j5 rec k L0 L2 (impl_NarrowSingles.l4 rec k L0 L2 n) x1 x5 x6 x7 x17 x18 x19 x27 x28 x45 x46 x47 H else none else impl_NarrowSingles.j6 rec k L0 L2 x1 x5 x6 x7 x17 x18 x19 x27 x28 H
noncomputable def impl_NarrowSingles.l2 (rec : Rec) (k : Nat) (L0 : Int → Sl → Sl → Int → Int → Hp → An) : Nat → Int → Sl → Int → Int → Sl → Int → Int → Int → Int → Hp → An
  | 0, _, _, _, _, _, _, _, _, _, _ => none
  | n + 1, x1, x5, x6, x7, x17, x18, x19, x27, x28, H => bif decide (x28 < x27) then if (x1 : Int) = 0 then none else if (x1 : Int) = 0 then none else impl_NarrowSingles.l4 rec k L0 (impl_NarrowSingles.l2 rec k L0 n) k x1 x5 x6 x7 x17 x18 x19 x27 x28 (Sl.mk false H.length 0 2) ((Sl.mk false H.length 0 2).len : Int) 0 (H ++ [some (Blk.mk false [.int .i64 (IntKind.i64.wrap ((IntKind.i64.wrap ((IntKind.i64.wrap ((x6 : Int).tdiv x1)) * x1)) + x28)), .int .i64 (IntKind.i64.wrap ((IntKind.i64.wrap (x28 * x1)) + ((x6 : Int).tmod x1)))])]) else impl_NarrowSingles.j1 rec k L0 x1 x5 x17 x18 x19 H
noncomputable def impl_NarrowSingles.l0 (rec : Rec) (k : Nat) : Nat → Int → Sl → Sl → Int → Int → Hp → An
  | 0, _, _, _, _, _, _ => none
  | n + 1, x1, x5, x17, x18, x19, H => bif decide (x19 < x18) then bif decide (0 ≤ (x19 : Int)) && decide ((x19 : Int) < x17.len) then (ldI .i64 H x17.blk (x17.off + (x19 : Int).toNat * 1)).bind fun n5 => (rec impl_onlyValue.id [.int .i64 n5] H).bind fun r6 => (r6.1.toI .i64).bind fun n7 => bif n7 == 0 then impl_NarrowSingles.j1 rec k (impl_NarrowSingles.l0 rec k n) x1 x5 x17 x18 x19 r6.2 else impl_NarrowSingles.l2 rec k (impl_NarrowSingles.l0 rec k n) k x1 x5 x19 n5 x17 x18 x19 x1 0 r6.2 else none else impl_NarrowSingles.j3 rec k x5 H
noncomputable def impl_NarrowSingles.f (rec : Rec) (k : Nat) (a0 : Sl) (a1 : Int) (H : Hp) : An := (rec impl_MasksValid.id [.sl 1 a0, .int .i64 a1] H).bind fun r1 => r1.1.toB.bind fun b2 => bif !b2 then some (.sl 1 Sl.none, r1.2) else (rec slices_Clone_int.id [.sl 1 a0] r1.2).bind fun r3 => (r3.1.toS 1).bind fun s4 => impl_NarrowSingles.l0 rec k k a1 s4 a0 (a0.len : Int) 0 r3.2
theorem impl_NarrowSingles.j1_eq (rec : Rec) (k : Nat) (n0 : Nat) (L0 : Int → Sl → Sl → Int → Int → Hp → An) (hL0 : ∀ x1 x5 x17 x18 x19 H, L0 x1 x5 x17 x18 x19 H = iter ((orc impl_NarrowSingles.id).at (lbody (sub impl_NarrowSingles.body [1, 1, 1, 0, 1, 0]))) (ex PP (orc impl_NarrowSingles.id) rec k (lbody (sub impl_NarrowSingles.body [1, 1, 1, 0, 1, 0]))) (kAt PP (orc impl_NarrowSingles.id) rec k impl_NarrowSingles.body [1, 1, 1, 0, 1, 0] [] (K0 PP Go.Proofs.Try.f37)) n0 (St.of 65 [(1, .int .i64 x1), (5, .sl 1 x5), (17, .sl 1 x17), (18, .int .i64 x18), (19, .int .i64 x19)] []) H) : ∀ x1 x5 x17 x18 x19 H, impl_NarrowSingles.j1 rec k L0 x1 x5 x17 x18 x19 H = ex PP (orc impl_NarrowSingles.id) rec k (sub impl_NarrowSingles.body [1, 1, 1, 0, 1, 0, 0, 1, 1, 1]) (St.of 65 [(1, .int .i64 x1), (5, .sl 1 x5), (17, .sl 1 x17), (18, .int .i64 x18), (19, .int .i64 x19)] []) H (kAt PP (orc impl_NarrowSingles.id) rec k impl_NarrowSingles.body [1, 1, 1, 0, 1, 0, 0, 1, 1, 1] [n0] (K0 PP Go.Proofs.Try.f37)) := by
  intros x1 x5 x17 x18 x19 H
  unfold impl_NarrowSingles.j1
  try simp only [hL0, -eq_self]
  kernel_rfl
theorem impl_NarrowSingles.j3_eq (rec : Rec) (k : Nat) : ∀ x5 H, impl_NarrowSingles.j3 rec k x5 H = ex PP (orc impl_NarrowSingles.id) rec k (sub impl_NarrowSingles.body [1, 1, 1, 1]) (St.of 65 [(5, .sl 1 x5)] []) H (kAt PP (orc impl_NarrowSingles.id) rec k impl_NarrowSingles.body [1, 1, 1, 1] [] (K0 PP Go.Proofs.Try.f37)) := by
  intros x5 H
  unfold impl_NarrowSingles.j3
  kernel_rfl
theorem impl_NarrowSingles.j5_eq (rec : Rec) (k : Nat) (n0 : Nat) (L0 : Int → Sl → Sl → Int → Int → Hp → An) (hL0 : ∀ x1 x5 x17 x18 x19 H, L0 x1 x5 x17 x18 x19 H = iter ((orc impl_NarrowSingles.id).at (lbody (sub impl_NarrowSingles.body [1, 1, 1, 0, 1, 0]))) (ex PP (orc impl_NarrowSingles.id) rec k (lbody (sub impl_NarrowSingles.body [1, 1, 1, 0, 1, 0]))) (kAt PP (orc impl_NarrowSingles.id) rec k impl_NarrowSingles.body [1, 1, 1, 0, 1, 0] [] (K0 PP Go.Proofs.Try.f37)) n0 (St.of 65 [(1, .int .i64 x1), (5, .sl 1 x5), (17, .sl 1 x17), (18, .int .i64 x18), (19, .int .i64 x19)] []) H) (n2 : Nat) (L2 : Int → Sl → Int → Int → Sl → Int → Int → Int → Int → Hp → An) (hL2 : ∀ x1 x5 x6 x7 x17 x18 x19 x27 x28 H, L2 x1 x5 x6 x7 x17 x18 x19 x27 x28 H = iter ((orc impl_NarrowSingles.id).at (lbody (sub impl_NarrowSingles.body [1, 1, 1, 0, 1, 0, 0, 1, 1, 0, 0, 1, 1, 1, 0]))) (ex PP (orc impl_NarrowSingles.id) rec k (lbody (sub impl_NarrowSingles.body [1, 1, 1, 0, 1, 0, 0, 1, 1, 0, 0, 1, 1, 1, 0]))) (kAt PP (orc impl_NarrowSingles.id) rec k impl_NarrowSingles.body [1, 1, 1, 0, 1, 0, 0, 1, 1, 0, 0, 1, 1, 1, 0] [n0] (K0 PP Go.Proofs.Try.f37)) n2 (St.of 65 [(1, .int .i64 x1), (5, .sl 1 x5), (6, .int .i64 x6), (7, .int .i64 x7), (17, .sl 1 x17), (18, .int .i64 x18), (19, .int .i64 x19), (27, .int .i64 x27), (28, .int .i64 x28)] []) H) (n4 : Nat) (L4 : Int → Sl → Int → Int → Sl → Int → Int → Int → Int → Sl → Int → Int → Hp → An) (hL4 : ∀ x1 x5 x6 x7 x17 x18 x19 x27 x28 x45 x46 x47 H, L4 x1 x5 x6 x7 x17 x18 x19 x27 x28 x45 x46 x47 H = iter ((orc impl_NarrowSingles.id).at (lbody (sub impl_NarrowSingles.body [1, 1, 1, 0, 1, 0, 0, 1, 1, 0, 0, 1, 1, 1, 0, 0, 1, 1, 0, 0, 1, 1, 0]))) (ex PP (orc impl_NarrowSingles.id) rec k (lbody (sub impl_NarrowSingles.body [1, 1, 1, 0, 1, 0, 0, 1, 1, 0, 0, 1, 1, 1, 0, 0, 1, 1, 0, 0, 1, 1, 0]))) (kAt PP (orc impl_NarrowSingles.id) rec k impl_NarrowSingles.body [1, 1, 1, 0, 1, 0, 0, 1, 1, 0, 0, 1, 1, 1, 0, 0, 1, 1, 0, 0, 1, 1, 0] [n0, n2] (K0 PP Go.Proofs.Try.f37)) n4 (St.of 65 [(1, .int .i64 x1), (5, .sl 1 x5), (6, .int .i64 x6), (7, .int .i64 x7), (17, .sl 1 x17), (18, .int .i64 x18), (19, .int .i64 x19), (27, .int .i64 x27), (28, .int .i64 x28), (45, .sl 1 x45), (46, .int .i64 x46), (47, .int .i64 x47)] []) H) : ∀ x1 x5 x6 x7 x17 x18 x19 x27 x28 x45 x46 x47 H, impl_NarrowSingles.j5 rec k L0 L2 L4 x1 x5 x6 x7 x17 x18 x19 x27 x28 x45 x46 x47 H = ex PP (orc impl_NarrowSingles.id) rec k (sub impl_NarrowSingles.body [1, 1, 1, 0, 1, 0, 0, 1, 1, 0, 0, 1, 1, 1, 0, 0, 1, 1, 0, 0, 1, 1, 0, 0, 1, 1, 1]) (St.of 65 [(1, .int .i64 x1), (5, .sl 1 x5), (6, .int .i64 x6), (7, .int .i64 x7), (17, .sl 1 x17), (18, .int .i64 x18), (19, .int .i64 x19), (27, .int .i64 x27), (28, .int .i64 x28), (45, .sl 1 x45), (46, .int .i64 x46), (47, .int .i64 x47)] []) H (kAt PP (orc impl_NarrowSingles.id) rec k impl_NarrowSingles.body [1, 1, 1, 0, 1, 0, 0, 1, 1, 0, 0, 1, 1, 1, 0, 0, 1, 1, 0, 0, 1, 1, 0, 0, 1, 1, 1] [n0, n2, n4] (K0 PP Go.Proofs.Try.f37)) := by
  intros x1 x5 x6 x7 x17 x18 x19 x27 x28 x45 x46 x47 H
  unfold impl_NarrowSingles.j5
  try simp only [hL0, hL2, hL4, -eq_self]
  kernel_rfl
theorem impl_NarrowSingles.j6_eq (rec : Rec) (k : Nat) (n0 : Nat) (L0 : Int → Sl → Sl → Int → Int → Hp → An) (hL0 : ∀ x1 x5 x17 x18 x19 H, L0 x1 x5 x17 x18 x19 H = iter ((orc impl_NarrowSingles.id).at (lbody (sub impl_NarrowSingles.body [1, 1, 1, 0, 1, 0]))) (ex PP (orc impl_NarrowSingles.id) rec k (lbody (sub impl_NarrowSingles.body [1, 1, 1, 0, 1, 0]))) (kAt PP (orc impl_NarrowSingles.id) rec k impl_NarrowSingles.body [1, 1, 1, 0, 1, 0] [] (K0 PP Go.Proofs.Try.f37)) n0 (St.of 65 [(1, .int .i64 x1), (5, .sl 1 x5), (17, .sl 1 x17), (18, .int .i64 x18), (19, .int .i64 x19)] []) H) (n2 : Nat) (L2 : Int → Sl → Int → Int → Sl → Int → Int → Int → Int → Hp → An) (hL2 : ∀ x1 x5 x6 x7 x17 x18 x19 x27 x28 H, L2 x1 x5 x6 x7 x17 x18 x19 x27 x28 H = iter ((orc impl_NarrowSingles.id).at (lbody (sub impl_NarrowSingles.body [1, 1, 1, 0, 1, 0, 0, 1, 1, 0, 0, 1, 1, 1, 0]))) (ex PP (orc impl_NarrowSingles.id) rec k (lbody (sub impl_NarrowSingles.body [1, 1, 1, 0, 1, 0, 0, 1, 1, 0, 0, 1, 1, 1, 0]))) (kAt PP (orc impl_NarrowSingles.id) rec k impl_NarrowSingles.body [1, 1, 1, 0, 1, 0, 0, 1, 1, 0, 0, 1, 1, 1, 0] [n0] (K0 PP Go.Proofs.Try.f37)) n2 (St.of 65 [(1, .int .i64 x1), (5, .sl 1 x5), (6, .int .i64 x6), (7, .int .i64 x7), (17, .sl 1 x17), (18, .int .i64 x18), (19, .int .i64 x19), (27, .int .i64 x27), (28, .int .i64 x28)] []) H) : ∀ x1 x5 x6 x7 x17 x18 x19 x27 x28 H, impl_NarrowSingles.j6 rec k L0 L2 x1 x5 x6 x7 x17 x18 x19 x27 x28 H = ex PP (orc impl_NarrowSingles.id) rec k (sub impl_NarrowSingles.body [1, 1, 1, 0, 1, 0, 0, 1, 1, 0, 0, 1, 1, 1, 0, 0, 1, 1, 1]) (St.of 65 [(1, .int .i64 x1), (5, .sl 1 x5), (6, .int .i64 x6), (7, .int .i64 x7), (17, .sl 1 x17), (18, .int .i64 x18), (19, .int .i64 x19), (27, .int .i64 x27), (28, .int .i64 x28)] []) H (kAt PP (orc impl_NarrowSingles.id) rec k impl_NarrowSingles.body [1, 1, 1, 0, 1, 0, 0, 1, 1, 0, 0, 1, 1, 1, 0, 0, 1, 1, 1] [n0, n2] (K0 PP Go.Proofs.Try.f37)) := by
  intros x1 x5 x6 x7 x17 x18 x19 x27 x28 H
  unfold impl_NarrowSingles.j6
  try simp only [hL0, hL2, -eq_self]
  kernel_rfl
theorem impl_NarrowSingles.l4_eq (rec : Rec) (k : Nat) (n0 : Nat) (L0 : Int → Sl → Sl → Int → Int → Hp → An) (hL0 : ∀ x1 x5 x17 x18 x19 H, L0 x1 x5 x17 x18 x19 H = iter ((orc impl_NarrowSingles.id).at (lbody (sub impl_NarrowSingles.body [1, 1, 1, 0, 1, 0]))) (ex PP (orc impl_NarrowSingles.id) rec k (lbody (sub impl_NarrowSingles.body [1, 1, 1, 0, 1, 0]))) (kAt PP (orc impl_NarrowSingles.id) rec k impl_NarrowSingles.body [1, 1, 1, 0, 1, 0] [] (K0 PP Go.Proofs.Try.f37)) n0 (St.of 65 [(1, .int .i64 x1), (5, .sl 1 x5), (17, .sl 1 x17), (18, .int .i64 x18), (19, .int .i64 x19)] []) H) (n2 : Nat) (L2 : Int → Sl → Int → Int → Sl → Int → Int → Int → Int → Hp → An) (hL2 : ∀ x1 x5 x6 x7 x17 x18 x19 x27 x28 H, L2 x1 x5 x6 x7 x17 x18 x19 x27 x28 H = iter ((orc impl_NarrowSingles.id).at (lbody (sub impl_NarrowSingles.body [1, 1, 1, 0, 1, 0, 0, 1, 1, 0, 0, 1, 1, 1, 0]))) (ex PP (orc impl_NarrowSingles.id) rec k (lbody (sub impl_NarrowSingles.body [1, 1, 1, 0, 1, 0, 0, 1, 1, 0, 0, 1, 1, 1, 0]))) (kAt PP (orc impl_NarrowSingles.id) rec k impl_NarrowSingles.body [1, 1, 1, 0, 1, 0, 0, 1, 1, 0, 0, 1, 1, 1, 0] [n0] (K0 PP Go.Proofs.Try.f37)) n2 (St.of 65 [(1, .int .i64 x1), (5, .sl 1 x5), (6, .int .i64 x6), (7, .int .i64 x7), (17, .sl 1 x17), (18, .int .i64 x18), (19, .int .i64 x19), (27, .int .i64 x27), (28, .int .i64 x28)] []) H) : ∀ n x1 x5 x6 x7 x17 x18 x19 x27 x28 x45 x46 x47 H, impl_NarrowSingles.l4 rec k L0 L2 n x1 x5 x6 x7 x17 x18 x19 x27 x28 x45 x46 x47 H = iter ((orc impl_NarrowSingles.id).at (lbody (sub impl_NarrowSingles.body [1, 1, 1, 0, 1, 0, 0, 1, 1, 0, 0, 1, 1, 1, 0, 0, 1, 1, 0, 0, 1, 1, 0]))) (ex PP (orc impl_NarrowSingles.id) rec k (lbody (sub impl_NarrowSingles.body [1, 1, 1, 0, 1, 0, 0, 1, 1, 0, 0, 1, 1, 1, 0, 0, 1, 1, 0, 0, 1, 1, 0]))) (kAt PP (orc impl_NarrowSingles.id) rec k impl_NarrowSingles.body [1, 1, 1, 0, 1, 0, 0, 1, 1, 0, 0, 1, 1, 1, 0, 0, 1, 1, 0, 0, 1, 1, 0] [n0, n2] (K0 PP Go.Proofs.Try.f37)) n (St.of 65 [(1, .int .i64 x1), (5, .sl 1 x5), (6, .int .i64 x6), (7, .int .i64 x7), (17, .sl 1 x17), (18, .int .i64 x18), (19, .int .i64 x19), (27, .int .i64 x27), (28, .int .i64 x28), (45, .sl 1 x45), (46, .int .i64 x46), (47, .int .i64 x47)] []) H := by
  intro n
  induction n with
  | zero => intros; rfl
  | succ n ih =>
    intros x1 x5 x6 x7 x17 x18 x19 x27 x28 x45 x46 x47 H
    simp only [impl_NarrowSingles.l4, hL0, hL2, impl_NarrowSingles.j5_eq rec k n0 L0 hL0 n2 L2 hL2 n (impl_NarrowSingles.l4 rec k L0 L2 n) (fun x1 x5 x6 x7 x17 x18 x19 x27 x28 x45 x46 x47 H => ih x1 x5 x6 x7 x17 x18 x19 x27 x28 x45 x46 x47 H), impl_NarrowSingles.j6_eq rec k n0 L0 hL0 n2 L2 hL2, ih, -eq_self]
    kernel_rfl
theorem impl_NarrowSingles.l2_eq (rec : Rec) (k : Nat) (n0 : Nat) (L0 : Int → Sl → Sl → Int → Int → Hp → An) (hL0 : ∀ x1 x5 x17 x18 x19 H, L0 x1 x5 x17 x18 x19 H = iter ((orc impl_NarrowSingles.id).at (lbody (sub impl_NarrowSingles.body [1, 1, 1, 0, 1, 0]))) (ex PP (orc impl_NarrowSingles.id) rec k (lbody (sub impl_NarrowSingles.body [1, 1, 1, 0, 1, 0]))) (kAt PP (orc impl_NarrowSingles.id) rec k impl_NarrowSingles.body [1, 1, 1, 0, 1, 0] [] (K0 PP Go.Proofs.Try.f37)) n0 (St.of 65 [(1, .int .i64 x1), (5, .sl 1 x5), (17, .sl 1 x17), (18, .int .i64 x18), (19, .int .i64 x19)] []) H) : ∀ n x1 x5 x6 x7 x17 x18 x19 x27 x28 H, impl_NarrowSingles.l2 rec k L0 n x1 x5 x6 x7 x17 x18 x19 x27 x28 H = iter ((orc impl_NarrowSingles.id).at (lbody (sub impl_NarrowSingles.body [1, 1, 1, 0, 1, 0, 0, 1, 1, 0, 0, 1, 1, 1, 0]))) (ex PP (orc impl_NarrowSingles.id) rec k (lbody (sub impl_NarrowSingles.body [1, 1, 1, 0, 1, 0, 0, 1, 1, 0, 0, 1, 1, 1, 0]))) (kAt PP (orc impl_NarrowSingles.id) rec k impl_NarrowSingles.body [1, 1, 1, 0, 1, 0, 0, 1, 1, 0, 0, 1, 1, 1, 0] [n0] (K0 PP Go.Proofs.Try.f37)) n (St.of 65 [(1, .int .i64 x1), (5, .sl 1 x5), (6, .int .i64 x6), (7, .int .i64 x7), (17, .sl 1 x17), (18, .int .i64 x18), (19, .int .i64 x19), (27, .int .i64 x27), (28, .int .i64 x28)] []) H := by
  intro n
  induction n with
  | zero => intros; rfl
  | succ n ih =>
    intros x1 x5 x6 x7 x17 x18 x19 x27 x28 H
    simp only [impl_NarrowSingles.l2, hL0, impl_NarrowSingles.l4_eq rec k n0 L0 hL0 n (impl_NarrowSingles.l2 rec k L0 n) (fun x1 x5 x6 x7 x17 x18 x19 x27 x28 H => ih x1 x5 x6 x7 x17 x18 x19 x27 x28 H), impl_NarrowSingles.j1_eq rec k n0 L0 hL0, ih, -eq_self]
    kernel_rfl
theorem impl_NarrowSingles.l0_eq (rec : Rec) (k : Nat) : ∀ n x1 x5 x17 x18 x19 H, impl_NarrowSingles.l0 rec k n x1 x5 x17 x18 x19 H = iter ((orc impl_NarrowSingles.id).at (lbody (sub impl_NarrowSingles.body [1, 1, 1, 0, 1, 0]))) (ex PP (orc impl_NarrowSingles.id) rec k (lbody (sub impl_NarrowSingles.body [1, 1, 1, 0, 1, 0]))) (kAt PP (orc impl_NarrowSingles.id) rec k impl_NarrowSingles.body [1, 1, 1, 0, 1, 0] [] (K0 PP Go.Proofs.Try.f37)) n (St.of 65 [(1, .int .i64 x1), (5, .sl 1 x5), (17, .sl 1 x17), (18, .int .i64 x18), (19, .int .i64 x19)] []) H := by
  intro n
  induction n with
  | zero => intros; rfl
  | succ n ih =>
    intros x1 x5 x17 x18 x19 H
    simp only [impl_NarrowSingles.l0, impl_NarrowSingles.j1_eq rec k n (impl_NarrowSingles.l0 rec k n) (fun x1 x5 x17 x18 x19 H => ih x1 x5 x17 x18 x19 H), impl_NarrowSingles.l2_eq rec k n (impl_NarrowSingles.l0 rec k n) (fun x1 x5 x17 x18 x19 H => ih x1 x5 x17 x18 x19 H), impl_NarrowSingles.j3_eq rec k, ih, -eq_self]
    kernel_rfl
theorem impl_NarrowSingles.f_eq (rec : Rec) (k : Nat) : ∀ a0 a1 H, impl_NarrowSingles.f rec k a0 a1 H = ex PP (orc impl_NarrowSingles.id) rec k impl_NarrowSingles.body (St.of 65 [(0, .sl 1 a0), (1, .int .i64 a1)] []) H (K0 PP Go.Proofs.Try.f37) := by
  intros a0 a1 H
  unfold impl_NarrowSingles.f
  try simp only [impl_NarrowSingles.l0_eq rec k, -eq_self]
  kernel_rfl
theorem impl_NarrowSingles.call (k : Nat) : ∀ a0 a1 H, callF PP orc (k + 1) impl_NarrowSingles.id [.sl 1 a0, .int .i64 a1] H = impl_NarrowSingles.f (callF PP orc k) k a0 a1 H := by
  intros a0 a1 H
  rw [callF_at (fn := Go.Proofs.Try.f37) (c := impl_NarrowSingles.body) Go.Proofs.Try.func37 (by kernel_rfl) (Nat.le_of_ble_eq_true (by kernel_rfl)), impl_NarrowSingles.f_eq]
  kernel_rfl
end Go.Proofs.Ytjojhbdghhmeeaa.Rp
/- Functions of the program as plain Lean functions. No conditions. -/
set_option linter.unusedVariables false
set_option linter.unusedSimpArgs false
set_option maxRecDepth 100000
namespace Go.Proofs.Ytjojhbdghhmeeaa.Rp
open Go Go.Proofs.Ytjojhbdghhmeeaa.Ab
noncomputable def laws_sameInts.body : Code := (Go.Proofs.Try.f32).body.getD .skip
noncomputable def laws_sameInts.l0 (rec : Rec) (k : Nat) : Nat → Sl → Sl → Int → Hp → An
  | 0, _, _, _, _ => none
  | n + 1, x0, x1, x5, H => bif decide (x5 < (x0.len : Int)) then bif decide (0 ≤ (x5 : Int)) && decide ((x5 : Int) < x0.len) then (ldI .i64 H x0.blk (x0.off + (x5 : Int).toNat * 1)).bind fun n1 => bif decide (0 ≤ (x5 : Int)) && decide ((x5 : Int) < x1.len) then (ldI .i64 H x1.blk (x1.off + (x5 : Int).toNat * 1)).bind fun n2 => bif n1 != n2 then some (.bool false, H) else (laws_sameInts.l0 rec k n) x0 x1 (IntKind.i64.wrap (x5 + 1)) H else none else none else some (.bool true, H)
noncomputable def laws_sameInts.f (rec : Rec) (k : Nat) (a0 : Sl) (a1 : Sl) (H : Hp) : An := bif (a0.len : Int) != (a1.len : Int) then some (.bool false, H) else laws_sameInts.l0 rec k k a0 a1 0 H
theorem laws_sameInts.l0_eq (rec : Rec) (k : Nat) : ∀ n x0 x1 x5 H, laws_sameInts.l0 rec k n x0 x1 x5 H = iter ((orc laws_sameInts.id).at (lbody (sub laws_sameInts.body [1, 1, 0, 1, 0]))) (ex PP (orc laws_sameInts.id) rec k (lbody (sub laws_sameInts.body [1, 1, 0, 1, 0]))) (kAt PP (orc laws_sameInts.id) rec k laws_sameInts.body [1, 1, 0, 1, 0] [] (K0 PP Go.Proofs.Try.f32)) n (St.of 26 [(0, .sl 1 x0), (1, .sl 1 x1), (5, .int .i64 x5)] []) H := by
  intro n
  induction n with
  | zero => intros; rfl
  | succ n ih =>
    intros x0 x1 x5 H
    simp only [laws_sameInts.l0, ih, -eq_self]
    kernel_rfl
theorem laws_sameInts.f_eq (rec : Rec) (k : Nat) : ∀ a0 a1 H, laws_sameInts.f rec k a0 a1 H = ex PP (orc laws_sameInts.id) rec k laws_sameInts.body (St.of 26 [(0, .sl 1 a0), (1, .sl 1 a1)] []) H (K0 PP Go.Proofs.Try.f32) := by
  intros a0 a1 H
  unfold laws_sameInts.f
  try simp only [laws_sameInts.l0_eq rec k, -eq_self]
  kernel_rfl
theorem laws_sameInts.call (k : Nat) : ∀ a0 a1 H, callF PP orc (k + 1) laws_sameInts.id [.sl 1 a0, .sl 1 a1] H = laws_sameInts.f (callF PP orc k) k a0 a1 H := by
  intros a0 a1 H
  rw [callF_at (fn := Go.Proofs.Try.f32) (c := laws_sameInts.body) Go.Proofs.Try.func32 (by kernel_rfl) (Nat.le_of_ble_eq_true (by kernel_rfl)), laws_sameInts.f_eq]
  kernel_rfl
end Go.Proofs.Ytjojhbdghhmeeaa.Rp
/- Functions of the program as plain Lean functions. No conditions. -/
set_option linter.unusedVariables false
set_option linter.unusedSimpArgs false
set_option maxRecDepth 100000
namespace Go.Proofs.Ytjojhbdghhmeeaa.Rp
open Go Go.Proofs.Ytjojhbdghhmeeaa.Ab
noncomputable def laws_within.body : Code := (Go.Proofs.Try.f39).body.getD .skip
noncomputable def laws_within.l0 (rec : Rec) (k : Nat) : Nat → Sl → Sl → Int → Hp → An
  | 0, _, _, _, _ => none
  | n + 1, x0, x1, x5, H => bif decide (x5 < (x0.len : Int)) then bif decide (0 ≤ (x5 : Int)) && decide ((x5 : Int) < x0.len) then (ldI .i64 H x0.blk (x0.off + (x5 : Int).toNat * 1)).bind fun n1 => bif decide (0 ≤ (x5 : Int)) && decide ((x5 : Int) < x1.len) then (ldI .i64 H x1.blk (x1.off + (x5 : Int).toNat * 1)).bind fun n2 => bif (IntKind.i64.wrap (((BitVec.ofInt IntKind.i64.bits n1 &&& ~~~ (BitVec.ofInt IntKind.i64.bits n2)).toNat : Int))) != 0 then some (.bool false, H) else (laws_within.l0 rec k n) x0 x1 (IntKind.i64.wrap (x5 + 1)) H else none else none else some (.bool true, H)
noncomputable def laws_within.f (rec : Rec) (k : Nat) (a0 : Sl) (a1 : Sl) (H : Hp) : An := bif (a0.len : Int) != (a1.len : Int) then some (.bool false, H) else laws_within.l0 rec k k a0 a1 0 H
theorem laws_within.l0_eq (rec : Rec) (k : Nat) : ∀ n x0 x1 x5 H, laws_within.l0 rec k n x0 x1 x5 H = iter ((orc laws_within.id).at (lbody (sub laws_within.body [1, 1, 0, 1, 0]))) (ex PP (orc laws_within.id) rec k (lbody (sub laws_within.body [1, 1, 0, 1, 0]))) (kAt PP (orc laws_within.id) rec k laws_within.body [1, 1, 0, 1, 0] [] (K0 PP Go.Proofs.Try.f39)) n (St.of 27 [(0, .sl 1 x0), (1, .sl 1 x1), (5, .int .i64 x5)] []) H := by
  intro n
  induction n with
  | zero => intros; rfl
  | succ n ih =>
    intros x0 x1 x5 H
    simp only [laws_within.l0, ih, -eq_self]
    kernel_rfl
theorem laws_within.f_eq (rec : Rec) (k : Nat) : ∀ a0 a1 H, laws_within.f rec k a0 a1 H = ex PP (orc laws_within.id) rec k laws_within.body (St.of 27 [(0, .sl 1 a0), (1, .sl 1 a1)] []) H (K0 PP Go.Proofs.Try.f39) := by
  intros a0 a1 H
  unfold laws_within.f
  try simp only [laws_within.l0_eq rec k, -eq_self]
  kernel_rfl
theorem laws_within.call (k : Nat) : ∀ a0 a1 H, callF PP orc (k + 1) laws_within.id [.sl 1 a0, .sl 1 a1] H = laws_within.f (callF PP orc k) k a0 a1 H := by
  intros a0 a1 H
  rw [callF_at (fn := Go.Proofs.Try.f39) (c := laws_within.body) Go.Proofs.Try.func39 (by kernel_rfl) (Nat.le_of_ble_eq_true (by kernel_rfl)), laws_within.f_eq]
  kernel_rfl
noncomputable def laws_keeps.body : Code := (Go.Proofs.Try.f40).body.getD .skip
noncomputable def laws_keeps.j2 (rec : Rec) (k : Nat) (L0 : Sl → Sl → Int → Int → Hp → An) (x0 : Sl) (x1 : Sl) (x2 : Int) (x7 : Int) (H : Hp) : An := L0 x0 x1 x2 (IntKind.i64.wrap (x7 + 1)) H
noncomputable def laws_keeps.j1 (rec : Rec) (k : Nat) (L0 : Sl → Sl → Int → Int → Hp → An) (x0 : Sl) (x1 : Sl) (x2 : Int) (x7 : Int) (x29 : Bool) (H : Hp) : An := bif x29 then some (.bool false, H) else laws_keeps.j2 rec k L0 x0 x1 x2 x7 H
noncomputable def laws_keeps.l0 (rec : Rec) (k : Nat) : Nat → Sl → Sl → Int → Int → Hp → An
  | 0, _, _, _, _, _ => none
  | n + 1, x0, x1, x2, x7, H => bif decide (x7 < 14) then (rec spec_SquareNumber.id [.int .i64 x2, .int .i64 x7] H).bind fun r1 => (r1.1.toS 1).bind fun s2 => bif (s2.len : Int) == 0 then some (.bool true, r1.2) else (rec spec_MasksHave.id [.sl 1 x0, .int .i64 x2, .sl 1 s2] r1.2).bind fun r3 => r3.1.toB.bind fun b4 => bif b4 then (rec impl_MasksHave.id [.sl 1 x1, .int .i64 x2, .sl 1 s2] r3.2).bind fun r5 => r5.1.toB.bind fun b6 => laws_keeps.j1 rec k (laws_keeps.l0 rec k n) x0 x1 x2 x7 (!b6) r5.2 else laws_keeps.j1 rec k (laws_keeps.l0 rec k n) x0 x1 x2 x7 false r3.2 else some (.bool true, H)
noncomputable def laws_keeps.f (rec : Rec) (k : Nat) (a0 : Sl) (a1 : Sl) (a2 : Int) (H : Hp) : An := laws_keeps.l0 rec k k a0 a1 a2 0 H
theorem laws_keeps.j2_eq (rec : Rec) (k : Nat) (n0 : Nat) (L0 : Sl → Sl → Int → Int → Hp → An) (hL0 : ∀ x0 x1 x2 x7 H, L0 x0 x1 x2 x7 H = iter ((orc laws_keeps.id).at (lbody (sub laws_keeps.body [1, 0, 1, 0]))) (ex PP (orc laws_keeps.id) rec k (lbody (sub laws_keeps.body [1, 0, 1, 0]))) (kAt PP (orc laws_keeps.id) rec k laws_keeps.body [1, 0, 1, 0] [] (K0 PP Go.Proofs.Try.f40)) n0 (St.of 30 [(0, .sl 1 x0), (1, .sl 1 x1), (2, .int .i64 x2), (7, .int .i64 x7)] []) H) : ∀ x0 x1 x2 x7 H, laws_keeps.j2 rec k L0 x0 x1 x2 x7 H = ex PP (orc laws_keeps.id) rec k (sub laws_keeps.body [1, 0, 1, 0, 0, 1, 1]) (St.of 30 [(0, .sl 1 x0), (1, .sl 1 x1), (2, .int .i64 x2), (7, .int .i64 x7)] []) H (kAt PP (orc laws_keeps.id) rec k laws_keeps.body [1, 0, 1, 0, 0, 1, 1] [n0] (K0 PP Go.Proofs.Try.f40)) := by
  intros x0 x1 x2 x7 H
  unfold laws_keeps.j2
  try simp only [hL0, -eq_self]
  kernel_rfl
theorem laws_keeps.j1_eq (rec : Rec) (k : Nat) (n0 : Nat) (L0 : Sl → Sl → Int → Int → Hp → An) (hL0 : ∀ x0 x1 x2 x7 H, L0 x0 x1 x2 x7 H = iter ((orc laws_keeps.id).at (lbody (sub laws_keeps.body [1, 0, 1, 0]))) (ex PP (orc laws_keeps.id) rec k (lbody (sub laws_keeps.body [1, 0, 1, 0]))) (kAt PP (orc laws_keeps.id) rec k laws_keeps.body [1, 0, 1, 0] [] (K0 PP Go.Proofs.Try.f40)) n0 (St.of 30 [(0, .sl 1 x0), (1, .sl 1 x1), (2, .int .i64 x2), (7, .int .i64 x7)] []) H) : ∀ x0 x1 x2 x7 x29 H, laws_keeps.j1 rec k L0 x0 x1 x2 x7 x29 H = ex PP (orc laws_keeps.id) rec k (sub laws_keeps.body [1, 0, 1, 0, 0, 1, 0, 0, 1, 1, 1]) (St.of 30 [(0, .sl 1 x0), (1, .sl 1 x1), (2, .int .i64 x2), (7, .int .i64 x7), (29, .bool x29)] []) H (kAt PP (orc laws_keeps.id) rec k laws_keeps.body [1, 0, 1, 0, 0, 1, 0, 0, 1, 1, 1] [n0] (K0 PP Go.Proofs.Try.f40)) := by
  intros x0 x1 x2 x7 x29 H
  unfold laws_keeps.j1
  try simp only [hL0, laws_keeps.j2_eq rec k n0 L0 hL0, -eq_self]
  kernel_rfl
theorem laws_keeps.l0_eq (rec : Rec) (k : Nat) : ∀ n x0 x1 x2 x7 H, laws_keeps.l0 rec k n x0 x1 x2 x7 H = iter ((orc laws_keeps.id).at (lbody (sub laws_keeps.body [1, 0, 1, 0]))) (ex PP (orc laws_keeps.id) rec k (lbody (sub laws_keeps.body [1, 0, 1, 0]))) (kAt PP (orc laws_keeps.id) rec k laws_keeps.body [1, 0, 1, 0] [] (K0 PP Go.Proofs.Try.f40)) n (St.of 30 [(0, .sl 1 x0), (1, .sl 1 x1), (2, .int .i64 x2), (7, .int .i64 x7)] []) H := by
  intro n
  induction n with
  | zero => intros; rfl
  | succ n ih =>
    intros x0 x1 x2 x7 H
    simp only [laws_keeps.l0, laws_keeps.j1_eq rec k n (laws_keeps.l0 rec k n) (fun x0 x1 x2 x7 H => ih x0 x1 x2 x7 H), ih, -eq_self]
    kernel_rfl
theorem laws_keeps.f_eq (rec : Rec) (k : Nat) : ∀ a0 a1 a2 H, laws_keeps.f rec k a0 a1 a2 H = ex PP (orc laws_keeps.id) rec k laws_keeps.body (St.of 30 [(0, .sl 1 a0), (1, .sl 1 a1), (2, .int .i64 a2)] []) H (K0 PP Go.Proofs.Try.f40) := by
  intros a0 a1 a2 H
  unfold laws_keeps.f
  try simp only [laws_keeps.l0_eq rec k, -eq_self]
  kernel_rfl
theorem laws_keeps.call (k : Nat) : ∀ a0 a1 a2 H, callF PP orc (k + 1) laws_keeps.id [.sl 1 a0, .sl 1 a1, .int .i64 a2] H = laws_keeps.f (callF PP orc k) k a0 a1 a2 H := by
  intros a0 a1 a2 H
  rw [callF_at (fn := Go.Proofs.Try.f40) (c := laws_keeps.body) Go.Proofs.Try.func40 (by kernel_rfl) (Nat.le_of_ble_eq_true (by kernel_rfl)), laws_keeps.f_eq]
  kernel_rfl
end Go.Proofs.Ytjojhbdghhmeeaa.Rp
/- Functions of the program as plain Lean functions. No conditions. -/
set_option linter.unusedVariables false
set_option linter.unusedSimpArgs false
set_option maxRecDepth 100000
namespace Go.Proofs.Ytjojhbdghhmeeaa.Rp
open Go Go.Proofs.Ytjojhbdghhmeeaa.Ab
noncomputable def laws_FnNarrowSingles.body : Code := (Go.Proofs.Try.f7).body.getD .skip
noncomputable def laws_FnNarrowSingles.f (rec : Rec) (k : Nat) (a0 : Sl) (H : Hp) : An := bif decide ((a0.len : Int) > 1048576) then some (.bool true, H) else (rec spec_DrawNarrowSingles.id [.sl 1 a0] H).bind fun r1 => bif r1.1.isTup 2 then ((r1.1.nth 0).toS 1).bind fun s2 => ((r1.1.nth 1).toI .i64).bind fun n3 => (rec impl_NarrowSingles.id [.sl 1 s2, .int .i64 n3] r1.2).bind fun r4 => (r4.1.toS 1).bind fun s5 => (rec spec_NarrowSingles.id [.sl 1 s2, .int .i64 n3] r4.2).bind fun r6 => (r6.1.toS 1).bind fun s7 => (rec laws_sameInts.id [.sl 1 s5, .sl 1 s7] r6.2).bind fun r8 => r8.1.toB.bind fun b9 => bif !b9 then some (.bool false, r8.2) else (rec spec_MasksValid.id [.sl 1 s2, .int .i64 n3] r8.2).bind fun r10 => r10.1.toB.bind fun b11 => bif !b11 then bif (s5.len : Int) == 0 then (rec laws_alive.id [] r10.2).bind fun r12 => r12.1.toB.bind fun b13 => some (.bool b13, r12.2) else some (.bool false, r10.2) else (rec laws_within.id [.sl 1 s5, .sl 1 s2] r10.2).bind fun r14 => r14.1.toB.bind fun b15 => bif b15 then (rec laws_keeps.id [.sl 1 s2, .sl 1 s5, .int .i64 n3] r14.2).bind fun r16 => r16.1.toB.bind fun b17 => some (.bool b17, r16.2) else some (.bool false, r14.2) else none
theorem laws_FnNarrowSingles.f_eq (rec : Rec) (k : Nat) : ∀ a0 H, laws_FnNarrowSingles.f rec k a0 H = ex PP (orc laws_FnNarrowSingles.id) rec k laws_FnNarrowSingles.body (St.of 42 [(0, .sl 1 a0)] []) H (K0 PP Go.Proofs.Try.f7) := by
  intros a0 H
  unfold laws_FnNarrowSingles.f
  kernel_rfl
theorem laws_FnNarrowSingles.call (k : Nat) : ∀ a0 H, callF PP orc (k + 1) laws_FnNarrowSingles.id [.sl 1 a0] H = laws_FnNarrowSingles.f (callF PP orc k) k a0 H := by
  intros a0 H
  rw [callF_at (fn := Go.Proofs.Try.f7) (c := laws_FnNarrowSingles.body) Go.Proofs.Try.func7 (by kernel_rfl) (Nat.le_of_ble_eq_true (by kernel_rfl)), laws_FnNarrowSingles.f_eq]
  kernel_rfl
noncomputable def spec_DrawNarrowSingles.body : Code := (Go.Proofs.Try.f36).body.getD .skip
noncomputable def spec_DrawNarrowSingles.f (rec : Rec) (k : Nat) (a0 : Sl) (H : Hp) : An := (rec spec_l20Open.id [.sl 1 a0] H).bind fun r1 => r1.1.toP.bind fun p2 => (rec spec_l20Masks.id [.ptr p2.1 p2.2, .int .i64 12] r1.2).bind fun r3 => bif r3.1.isTup 2 then ((r3.1.nth 0).toS 1).bind fun s4 => ((r3.1.nth 1).toI .i64).bind fun n5 => some (.tup [.sl 1 s4, .int .i64 n5], r3.2) else none
theorem spec_DrawNarrowSingles.f_eq (rec : Rec) (k : Nat) : ∀ a0 H, spec_DrawNarrowSingles.f rec k a0 H = ex PP (orc spec_DrawNarrowSingles.id) rec k spec_DrawNarrowSingles.body (St.of 9 [(0, .sl 1 a0)] []) H (K0 PP Go.Proofs.Try.f36) := by
  intros a0 H
  unfold spec_DrawNarrowSingles.f
  kernel_rfl
theorem spec_DrawNarrowSingles.call (k : Nat) : ∀ a0 H, callF PP orc (k + 1) spec_DrawNarrowSingles.id [.sl 1 a0] H = spec_DrawNarrowSingles.f (callF PP orc k) k a0 H := by
  intros a0 H
  rw [callF_at (fn := Go.Proofs.Try.f36) (c := spec_DrawNarrowSingles.body) Go.Proofs.Try.func36 (by kernel_rfl) (Nat.le_of_ble_eq_true (by kernel_rfl)), spec_DrawNarrowSingles.f_eq]
  kernel_rfl
end Go.Proofs.Ytjojhbdghhmeeaa.Rp
