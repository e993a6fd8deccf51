/- Texts for the row of the law FnPuzzleValid, part 0: the plain machine, the program's functions on it, what they come to. No conditions. -/
import Derived.Test.YtjojhbdghhmeeaaAb
import Derived.Test.YtjojhbdghhmeeaaOr
import Derived.Test.YtjojhbdghhmeeaaAy
import Derived.IntWalk
/- Functions of the program as plain Lean functions. No conditions. -/
set_option linter.unusedVariables false
set_option linter.unusedSimpArgs false
set_option maxRecDepth 100000
namespace Go.Proofs.Ytjojhbdghhmeeaa.Rp
open Go Go.Proofs.Ytjojhbdghhmeeaa.Ab
noncomputable def impl_sizeOk.body : Code := (Go.Proofs.Try.f83).body.getD .skip
noncomputable def impl_sizeOk.f (rec : Rec) (k : Nat) (a0 : Int) (H : Hp) : An := bif decide (a0 ≥ 2) then some (.bool (decide (a0 ≤ 4)), H) else some (.bool false, H)
theorem impl_sizeOk.f_eq (rec : Rec) (k : Nat) : ∀ a0 H, impl_sizeOk.f rec k a0 H = ex PP (orc impl_sizeOk.id) rec k impl_sizeOk.body (St.of 9 [(0, .int .i64 a0)] []) H (K0 PP Go.Proofs.Try.f83) := by
  intros a0 H
  unfold impl_sizeOk.f
  kernel_rfl
theorem impl_sizeOk.call (k : Nat) : ∀ a0 H, callF PP orc (k + 1) impl_sizeOk.id [.int .i64 a0] H = impl_sizeOk.f (callF PP orc k) k a0 H := by
  intros a0 H
  rw [callF_at (fn := Go.Proofs.Try.f83) (c := impl_sizeOk.body) Go.Proofs.Try.func83 (by kernel_rfl) (Nat.le_of_ble_eq_true (by kernel_rfl)), impl_sizeOk.f_eq]
  kernel_rfl
noncomputable def spec_l1In.body : Code := (Go.Proofs.Try.f85).body.getD .skip
noncomputable def spec_l1In.f (rec : Rec) (k : Nat) (a0 : Int) (a1 : Int) (a2 : Int) (H : Hp) : An := bif decide (a0 ≥ a1) then some (.bool (decide (a0 ≤ a2)), H) else some (.bool false, H)
theorem spec_l1In.f_eq (rec : Rec) (k : Nat) : ∀ a0 a1 a2 H, spec_l1In.f rec k a0 a1 a2 H = ex PP (orc spec_l1In.id) rec k spec_l1In.body (St.of 15 [(0, .int .i64 a0), (1, .int .i64 a1), (2, .int .i64 a2)] []) H (K0 PP Go.Proofs.Try.f85) := by
  intros a0 a1 a2 H
  unfold spec_l1In.f
  kernel_rfl
theorem spec_l1In.call (k : Nat) : ∀ a0 a1 a2 H, callF PP orc (k + 1) spec_l1In.id [.int .i64 a0, .int .i64 a1, .int .i64 a2] H = spec_l1In.f (callF PP orc k) k a0 a1 a2 H := by
  intros a0 a1 a2 H
  rw [callF_at (fn := Go.Proofs.Try.f85) (c := spec_l1In.body) Go.Proofs.Try.func85 (by kernel_rfl) (Nat.le_of_ble_eq_true (by kernel_rfl)), spec_l1In.f_eq]
  kernel_rfl
noncomputable def impl_GridValid.body : Code := (Go.Proofs.Try.f35).body.getD .skip
noncomputable def impl_GridValid.j4 (rec : Rec) (k : Nat) (L2 : Int → Sl → Int → Int → Hp → An) (x1 : Int) (x18 : Sl) (x19 : Int) (x20 : Int) (H : Hp) : An := L2 x1 x18 x19 (IntKind.i64.wrap (x20 + 1)) H
noncomputable def impl_GridValid.j3 (rec : Rec) (k : Nat) (L2 : Int → Sl → Int → Int → Hp → An) (x1 : Int) (x18 : Sl) (x19 : Int) (x20 : Int) (x30 : Bool) (H : Hp) : An := bif x30 then some (.bool false, H) else impl_GridValid.j4 rec k L2 x1 x18 x19 x20 H
noncomputable def impl_GridValid.l2 (rec : Rec) (k : Nat) : Nat → Int → Sl → Int → Int → Hp → An
  | 0, _, _, _, _, _ => none
  | n + 1, x1, x18, x19, x20, H => bif decide (x20 < x19) then bif decide (0 ≤ (x20 : Int)) && decide ((x20 : Int) < x18.len) then (ldI .i64 H x18.blk (x18.off + (x20 : Int).toNat * 1)).bind fun n3 => bif decide (n3 < 0) then impl_GridValid.j3 rec k (impl_GridValid.l2 rec k n) x1 x18 x19 x20 true H else impl_GridValid.j3 rec k (impl_GridValid.l2 rec k n) x1 x18 x19 x20 (decide (n3 > x1)) H else none else some (.bool true, H)
noncomputable def impl_GridValid.j1 (rec : Rec) (k : Nat) (x0 : Sl) (x1 : Int) (H : Hp) : An := impl_GridValid.l2 rec k k x1 x0 (x0.len : Int) 0 H
noncomputable def impl_GridValid.j0 (rec : Rec) (k : Nat) (x0 : Sl) (x1 : Int) (x17 : Bool) (H : Hp) : An := bif x17 then some (.bool false, H) else impl_GridValid.j1 rec k x0 x1 H
noncomputable def impl_GridValid.f (rec : Rec) (k : Nat) (a0 : Sl) (a1 : Int) (H : Hp) : An := (rec impl_sizeOk.id [.int .i64 a1] H).bind fun r1 => r1.1.toB.bind fun b2 => bif !b2 then impl_GridValid.j0 rec k a0 a1 true r1.2 else impl_GridValid.j0 rec k a0 a1 ((a0.len : Int) != (IntKind.i64.wrap (a1 * a1))) r1.2
theorem impl_GridValid.j4_eq (rec : Rec) (k : Nat) (n2 : Nat) (L2 : Int → Sl → Int → Int → Hp → An) (hL2 : ∀ x1 x18 x19 x20 H, L2 x1 x18 x19 x20 H = iter ((orc impl_GridValid.id).at (lbody (sub impl_GridValid.body [1, 1, 0, 1, 0]))) (ex PP (orc impl_GridValid.id) rec k (lbody (sub impl_GridValid.body [1, 1, 0, 1, 0]))) (kAt PP (orc impl_GridValid.id) rec k impl_GridValid.body [1, 1, 0, 1, 0] [] (K0 PP Go.Proofs.Try.f35)) n2 (St.of 32 [(1, .int .i64 x1), (18, .sl 1 x18), (19, .int .i64 x19), (20, .int .i64 x20)] []) H) : ∀ x1 x18 x19 x20 H, impl_GridValid.j4 rec k L2 x1 x18 x19 x20 H = ex PP (orc impl_GridValid.id) rec k (sub impl_GridValid.body [1, 1, 0, 1, 0, 0, 1, 1, 1]) (St.of 32 [(1, .int .i64 x1), (18, .sl 1 x18), (19, .int .i64 x19), (20, .int .i64 x20)] []) H (kAt PP (orc impl_GridValid.id) rec k impl_GridValid.body [1, 1, 0, 1, 0, 0, 1, 1, 1] [n2] (K0 PP Go.Proofs.Try.f35)) := by
  intros x1 x18 x19 x20 H
  unfold impl_GridValid.j4
  try simp only [hL2, -eq_self]
  kernel_rfl
theorem impl_GridValid.j3_eq (rec : Rec) (k : Nat) (n2 : Nat) (L2 : Int → Sl → Int → Int → Hp → An) (hL2 : ∀ x1 x18 x19 x20 H, L2 x1 x18 x19 x20 H = iter ((orc impl_GridValid.id).at (lbody (sub impl_GridValid.body [1, 1, 0, 1, 0]))) (ex PP (orc impl_GridValid.id) rec k (lbody (sub impl_GridValid.body [1, 1, 0, 1, 0]))) (kAt PP (orc impl_GridValid.id) rec k impl_GridValid.body [1, 1, 0, 1, 0] [] (K0 PP Go.Proofs.Try.f35)) n2 (St.of 32 [(1, .int .i64 x1), (18, .sl 1 x18), (19, .int .i64 x19), (20, .int .i64 x20)] []) H) : ∀ x1 x18 x19 x20 x30 H, impl_GridValid.j3 rec k L2 x1 x18 x19 x20 x30 H = ex PP (orc impl_GridValid.id) rec k (sub impl_GridValid.body [1, 1, 0, 1, 0, 0, 1, 1, 0, 0, 1, 1]) (St.of 32 [(1, .int .i64 x1), (18, .sl 1 x18), (19, .int .i64 x19), (20, .int .i64 x20), (30, .bool x30)] []) H (kAt PP (orc impl_GridValid.id) rec k impl_GridValid.body [1, 1, 0, 1, 0, 0, 1, 1, 0, 0, 1, 1] [n2] (K0 PP Go.Proofs.Try.f35)) := by
  intros x1 x18 x19 x20 x30 H
  unfold impl_GridValid.j3
  try simp only [hL2, impl_GridValid.j4_eq rec k n2 L2 hL2, -eq_self]
  kernel_rfl
theorem impl_GridValid.l2_eq (rec : Rec) (k : Nat) : ∀ n x1 x18 x19 x20 H, impl_GridValid.l2 rec k n x1 x18 x19 x20 H = iter ((orc impl_GridValid.id).at (lbody (sub impl_GridValid.body [1, 1, 0, 1, 0]))) (ex PP (orc impl_GridValid.id) rec k (lbody (sub impl_GridValid.body [1, 1, 0, 1, 0]))) (kAt PP (orc impl_GridValid.id) rec k impl_GridValid.body [1, 1, 0, 1, 0] [] (K0 PP Go.Proofs.Try.f35)) n (St.of 32 [(1, .int .i64 x1), (18, .sl 1 x18), (19, .int .i64 x19), (20, .int .i64 x20)] []) H := by
  intro n
  induction n with
  | zero => intros; rfl
  | succ n ih =>
    intros x1 x18 x19 x20 H
    simp only [impl_GridValid.l2, impl_GridValid.j3_eq rec k n (impl_GridValid.l2 rec k n) (fun x1 x18 x19 x20 H => ih x1 x18 x19 x20 H), ih, -eq_self]
    kernel_rfl
theorem impl_GridValid.j1_eq (rec : Rec) (k : Nat) : ∀ x0 x1 H, impl_GridValid.j1 rec k x0 x1 H = ex PP (orc impl_GridValid.id) rec k (sub impl_GridValid.body [1, 1]) (St.of 32 [(0, .sl 1 x0), (1, .int .i64 x1)] []) H (kAt PP (orc impl_GridValid.id) rec k impl_GridValid.body [1, 1] [] (K0 PP Go.Proofs.Try.f35)) := by
  intros x0 x1 H
  unfold impl_GridValid.j1
  try simp only [impl_GridValid.l2_eq rec k, -eq_self]
  kernel_rfl
theorem impl_GridValid.j0_eq (rec : Rec) (k : Nat) : ∀ x0 x1 x17 H, impl_GridValid.j0 rec k x0 x1 x17 H = ex PP (orc impl_GridValid.id) rec k (sub impl_GridValid.body [1, 0, 1]) (St.of 32 [(0, .sl 1 x0), (1, .int .i64 x1), (17, .bool x17)] []) H (kAt PP (orc impl_GridValid.id) rec k impl_GridValid.body [1, 0, 1] [] (K0 PP Go.Proofs.Try.f35)) := by
  intros x0 x1 x17 H
  unfold impl_GridValid.j0
  try simp only [impl_GridValid.j1_eq rec k, -eq_self]
  kernel_rfl
theorem impl_GridValid.f_eq (rec : Rec) (k : Nat) : ∀ a0 a1 H, impl_GridValid.f rec k a0 a1 H = ex PP (orc impl_GridValid.id) rec k impl_GridValid.body (St.of 32 [(0, .sl 1 a0), (1, .int .i64 a1)] []) H (K0 PP Go.Proofs.Try.f35) := by
  intros a0 a1 H
  unfold impl_GridValid.f
  try simp only [impl_GridValid.j0_eq rec k, -eq_self]
  kernel_rfl
theorem impl_GridValid.call (k : Nat) : ∀ a0 a1 H, callF PP orc (k + 1) impl_GridValid.id [.sl 1 a0, .int .i64 a1] H = impl_GridValid.f (callF PP orc k) k a0 a1 H := by
  intros a0 a1 H
  rw [callF_at (fn := Go.Proofs.Try.f35) (c := impl_GridValid.body) Go.Proofs.Try.func35 (by kernel_rfl) (Nat.le_of_ble_eq_true (by kernel_rfl)), impl_GridValid.f_eq]
  kernel_rfl
noncomputable def spec_GridValid.body : Code := (Go.Proofs.Try.f28).body.getD .skip
noncomputable def spec_GridValid.j1 (rec : Rec) (k : Nat) (x0 : Sl) (x1 : Int) (H : Hp) : An := (rec spec_l1In.id [.int .i64 x1, .int .i64 2, .int .i64 4] H).bind fun r4 => r4.1.toB.bind fun b5 => bif b5 then some (.bool ((x0.len : Int) == (IntKind.i64.wrap (x1 * x1))), r4.2) else some (.bool false, r4.2)
noncomputable def spec_GridValid.l0 (rec : Rec) (k : Nat) : Nat → Sl → Int → Int → Hp → An
  | 0, _, _, _, _ => none
  | n + 1, x0, x1, x5, H => bif decide (x5 < (x0.len : Int)) then bif decide (0 ≤ (x5 : Int)) && decide ((x5 : Int) < x0.len) then (ldI .i64 H x0.blk (x0.off + (x5 : Int).toNat * 1)).bind fun n1 => (rec spec_l1In.id [.int .i64 n1, .int .i64 0, .int .i64 x1] H).bind fun r2 => r2.1.toB.bind fun b3 => bif !b3 then some (.bool false, r2.2) else (spec_GridValid.l0 rec k n) x0 x1 (IntKind.i64.wrap (x5 + 1)) r2.2 else none else spec_GridValid.j1 rec k x0 x1 H
noncomputable def spec_GridValid.f (rec : Rec) (k : Nat) (a0 : Sl) (a1 : Int) (H : Hp) : An := spec_GridValid.l0 rec k k a0 a1 0 H
theorem spec_GridValid.j1_eq (rec : Rec) (k : Nat) : ∀ x0 x1 H, spec_GridValid.j1 rec k x0 x1 H = ex PP (orc spec_GridValid.id) rec k (sub spec_GridValid.body [1, 1]) (St.of 29 [(0, .sl 1 x0), (1, .int .i64 x1)] []) H (kAt PP (orc spec_GridValid.id) rec k spec_GridValid.body [1, 1] [] (K0 PP Go.Proofs.Try.f28)) := by
  intros x0 x1 H
  unfold spec_GridValid.j1
  kernel_rfl
theorem spec_GridValid.l0_eq (rec : Rec) (k : Nat) : ∀ n x0 x1 x5 H, spec_GridValid.l0 rec k n x0 x1 x5 H = iter ((orc spec_GridValid.id).at (lbody (sub spec_GridValid.body [1, 0, 1, 0]))) (ex PP (orc spec_GridValid.id) rec k (lbody (sub spec_GridValid.body [1, 0, 1, 0]))) (kAt PP (orc spec_GridValid.id) rec k spec_GridValid.body [1, 0, 1, 0] [] (K0 PP Go.Proofs.Try.f28)) n (St.of 29 [(0, .sl 1 x0), (1, .int .i64 x1), (5, .int .i64 x5)] []) H := by
  intro n
  induction n with
  | zero => intros; rfl
  | succ n ih =>
    intros x0 x1 x5 H
    simp only [spec_GridValid.l0, spec_GridValid.j1_eq rec k, ih, -eq_self]
    kernel_rfl
theorem spec_GridValid.f_eq (rec : Rec) (k : Nat) : ∀ a0 a1 H, spec_GridValid.f rec k a0 a1 H = ex PP (orc spec_GridValid.id) rec k spec_GridValid.body (St.of 29 [(0, .sl 1 a0), (1, .int .i64 a1)] []) H (K0 PP Go.Proofs.Try.f28) := by
  intros a0 a1 H
  unfold spec_GridValid.f
  try simp only [spec_GridValid.l0_eq rec k, -eq_self]
  kernel_rfl
theorem spec_GridValid.call (k : Nat) : ∀ a0 a1 H, callF PP orc (k + 1) spec_GridValid.id [.sl 1 a0, .int .i64 a1] H = spec_GridValid.f (callF PP orc k) k a0 a1 H := by
  intros a0 a1 H
  rw [callF_at (fn := Go.Proofs.Try.f28) (c := spec_GridValid.body) Go.Proofs.Try.func28 (by kernel_rfl) (Nat.le_of_ble_eq_true (by kernel_rfl)), spec_GridValid.f_eq]
  kernel_rfl
noncomputable def impl_GridFilled.body : Code := (Go.Proofs.Try.f29).body.getD .skip
noncomputable def impl_GridFilled.j1 (rec : Rec) (k : Nat) (L0 : Int → Sl → Int → Int → Hp → An) (x5 : Int) (x12 : Sl) (x13 : Int) (x14 : Int) (H : Hp) : An := L0 x5 x12 x13 (IntKind.i64.wrap (x14 + 1)) H
noncomputable def impl_GridFilled.j2 (rec : Rec) (k : Nat) (x5 : Int) (H : Hp) : An := some (.int .i64 x5, H)
noncomputable def impl_GridFilled.l0 (rec : Rec) (k : Nat) : Nat → Int → Sl → Int → Int → Hp → An
  | 0, _, _, _, _, _ => none
  | n + 1, x5, x12, x13, x14, H => bif decide (x14 < x13) then bif decide (0 ≤ (x14 : Int)) && decide ((x14 : Int) < x12.len) then (ldI .i64 H x12.blk (x12.off + (x14 : Int).toNat * 1)).bind fun n3 => bif decide (n3 > 0) then impl_GridFilled.j1 rec k (impl_GridFilled.l0 rec k n) (IntKind.i64.wrap (x5 + 1)) x12 x13 x14 H else impl_GridFilled.j1 rec k (impl_GridFilled.l0 rec k n) x5 x12 x13 x14 H else none else impl_GridFilled.j2 rec k x5 H
noncomputable def impl_GridFilled.f (rec : Rec) (k : Nat) (a0 : Sl) (a1 : Int) (H : Hp) : An := (rec impl_GridValid.id [.sl 1 a0, .int .i64 a1] H).bind fun r1 => r1.1.toB.bind fun b2 => bif !b2 then some (.int .i64 (-1), r1.2) else impl_GridFilled.l0 rec k k 0 a0 (a0.len : Int) 0 r1.2
theorem impl_GridFilled.j1_eq (rec : Rec) (k : Nat) (n0 : Nat) (L0 : Int → Sl → Int → Int → Hp → An) (hL0 : ∀ x5 x12 x13 x14 H, L0 x5 x12 x13 x14 H = iter ((orc impl_GridFilled.id).at (lbody (sub impl_GridFilled.body [1, 1, 1, 0, 1, 0]))) (ex PP (orc impl_GridFilled.id) rec k (lbody (sub impl_GridFilled.body [1, 1, 1, 0, 1, 0]))) (kAt PP (orc impl_GridFilled.id) rec k impl_GridFilled.body [1, 1, 1, 0, 1, 0] [] (K0 PP Go.Proofs.Try.f29)) n0 (St.of 24 [(5, .int .i64 x5), (12, .sl 1 x12), (13, .int .i64 x13), (14, .int .i64 x14)] []) H) : ∀ x5 x12 x13 x14 H, impl_GridFilled.j1 rec k L0 x5 x12 x13 x14 H = ex PP (orc impl_GridFilled.id) rec k (sub impl_GridFilled.body [1, 1, 1, 0, 1, 0, 0, 1, 1, 1]) (St.of 24 [(5, .int .i64 x5), (12, .sl 1 x12), (13, .int .i64 x13), (14, .int .i64 x14)] []) H (kAt PP (orc impl_GridFilled.id) rec k impl_GridFilled.body [1, 1, 1, 0, 1, 0, 0, 1, 1, 1] [n0] (K0 PP Go.Proofs.Try.f29)) := by
  intros x5 x12 x13 x14 H
  unfold impl_GridFilled.j1
  try simp only [hL0, -eq_self]
  kernel_rfl
theorem impl_GridFilled.j2_eq (rec : Rec) (k : Nat) : ∀ x5 H, impl_GridFilled.j2 rec k x5 H = ex PP (orc impl_GridFilled.id) rec k (sub impl_GridFilled.body [1, 1, 1, 1]) (St.of 24 [(5, .int .i64 x5)] []) H (kAt PP (orc impl_GridFilled.id) rec k impl_GridFilled.body [1, 1, 1, 1] [] (K0 PP Go.Proofs.Try.f29)) := by
  intros x5 H
  unfold impl_GridFilled.j2
  kernel_rfl
theorem impl_GridFilled.l0_eq (rec : Rec) (k : Nat) : ∀ n x5 x12 x13 x14 H, impl_GridFilled.l0 rec k n x5 x12 x13 x14 H = iter ((orc impl_GridFilled.id).at (lbody (sub impl_GridFilled.body [1, 1, 1, 0, 1, 0]))) (ex PP (orc impl_GridFilled.id) rec k (lbody (sub impl_GridFilled.body [1, 1, 1, 0, 1, 0]))) (kAt PP (orc impl_GridFilled.id) rec k impl_GridFilled.body [1, 1, 1, 0, 1, 0] [] (K0 PP Go.Proofs.Try.f29)) n (St.of 24 [(5, .int .i64 x5), (12, .sl 1 x12), (13, .int .i64 x13), (14, .int .i64 x14)] []) H := by
  intro n
  induction n with
  | zero => intros; rfl
  | succ n ih =>
    intros x5 x12 x13 x14 H
    simp only [impl_GridFilled.l0, impl_GridFilled.j1_eq rec k n (impl_GridFilled.l0 rec k n) (fun x5 x12 x13 x14 H => ih x5 x12 x13 x14 H), impl_GridFilled.j2_eq rec k, ih, -eq_self]
    kernel_rfl
theorem impl_GridFilled.f_eq (rec : Rec) (k : Nat) : ∀ a0 a1 H, impl_GridFilled.f rec k a0 a1 H = ex PP (orc impl_GridFilled.id) rec k impl_GridFilled.body (St.of 24 [(0, .sl 1 a0), (1, .int .i64 a1)] []) H (K0 PP Go.Proofs.Try.f29) := by
  intros a0 a1 H
  unfold impl_GridFilled.f
  try simp only [impl_GridFilled.l0_eq rec k, -eq_self]
  kernel_rfl
theorem impl_GridFilled.call (k : Nat) : ∀ a0 a1 H, callF PP orc (k + 1) impl_GridFilled.id [.sl 1 a0, .int .i64 a1] H = impl_GridFilled.f (callF PP orc k) k a0 a1 H := by
  intros a0 a1 H
  rw [callF_at (fn := Go.Proofs.Try.f29) (c := impl_GridFilled.body) Go.Proofs.Try.func29 (by kernel_rfl) (Nat.le_of_ble_eq_true (by kernel_rfl)), impl_GridFilled.f_eq]
  kernel_rfl
noncomputable def spec_GridFilled.body : Code := (Go.Proofs.Try.f100).body.getD .skip
noncomputable def spec_GridFilled.j1 (rec : Rec) (k : Nat) (L0 : Sl → Int → Int → Hp → An) (x0 : Sl) (x5 : Int) (x6 : Int) (H : Hp) : An := L0 x0 x5 (IntKind.i64.wrap (x6 + 1)) H
noncomputable def spec_GridFilled.j2 (rec : Rec) (k : Nat) (x5 : Int) (H : Hp) : An := some (.int .i64 x5, H)
noncomputable def spec_GridFilled.l0 (rec : Rec) (k : Nat) : Nat → Sl → Int → Int → Hp → An
  | 0, _, _, _, _ => none
  | n + 1, x0, x5, x6, H => bif decide (x6 < (x0.len : Int)) then bif decide (0 ≤ (x6 : Int)) && decide ((x6 : Int) < x0.len) then (ldI .i64 H x0.blk (x0.off + (x6 : Int).toNat * 1)).bind fun n3 => bif decide (n3 > 0) then spec_GridFilled.j1 rec k (spec_GridFilled.l0 rec k n) x0 (IntKind.i64.wrap (x5 + 1)) x6 H else spec_GridFilled.j1 rec k (spec_GridFilled.l0 rec k n) x0 x5 x6 H else none else spec_GridFilled.j2 rec k x5 H
noncomputable def spec_GridFilled.f (rec : Rec) (k : Nat) (a0 : Sl) (a1 : Int) (H : Hp) : An := (rec spec_GridValid.id [.sl 1 a0, .int .i64 a1] H).bind fun r1 => r1.1.toB.bind fun b2 => bif !b2 then some (.int .i64 (-1), r1.2) else spec_GridFilled.l0 rec k k a0 0 0 r1.2
theorem spec_GridFilled.j1_eq (rec : Rec) (k : Nat) (n0 : Nat) (L0 : Sl → Int → Int → Hp → An) (hL0 : ∀ x0 x5 x6 H, L0 x0 x5 x6 H = iter ((orc spec_GridFilled.id).at (lbody (sub spec_GridFilled.body [1, 1, 1, 0, 1, 0]))) (ex PP (orc spec_GridFilled.id) rec k (lbody (sub spec_GridFilled.body [1, 1, 1, 0, 1, 0]))) (kAt PP (orc spec_GridFilled.id) rec k spec_GridFilled.body [1, 1, 1, 0, 1, 0] [] (K0 PP Go.Proofs.Try.f100)) n0 (St.of 25 [(0, .sl 1 x0), (5, .int .i64 x5), (6, .int .i64 x6)] []) H) : ∀ x0 x5 x6 H, spec_GridFilled.j1 rec k L0 x0 x5 x6 H = ex PP (orc spec_GridFilled.id) rec k (sub spec_GridFilled.body [1, 1, 1, 0, 1, 0, 0, 1, 1]) (St.of 25 [(0, .sl 1 x0), (5, .int .i64 x5), (6, .int .i64 x6)] []) H (kAt PP (orc spec_GridFilled.id) rec k spec_GridFilled.body [1, 1, 1, 0, 1, 0, 0, 1, 1] [n0] (K0 PP Go.Proofs.Try.f100)) := by
  intros x0 x5 x6 H
  unfold spec_GridFilled.j1
  try simp only [hL0, -eq_self]
  kernel_rfl
theorem spec_GridFilled.j2_eq (rec : Rec) (k : Nat) : ∀ x5 H, spec_GridFilled.j2 rec k x5 H = ex PP (orc spec_GridFilled.id) rec k (sub spec_GridFilled.body [1, 1, 1, 1]) (St.of 25 [(5, .int .i64 x5)] []) H (kAt PP (orc spec_GridFilled.id) rec k spec_GridFilled.body [1, 1, 1, 1] [] (K0 PP Go.Proofs.Try.f100)) := by
  intros x5 H
  unfold spec_GridFilled.j2
  kernel_rfl
theorem spec_GridFilled.l0_eq (rec : Rec) (k : Nat) : ∀ n x0 x5 x6 H, spec_GridFilled.l0 rec k n x0 x5 x6 H = iter ((orc spec_GridFilled.id).at (lbody (sub spec_GridFilled.body [1, 1, 1, 0, 1, 0]))) (ex PP (orc spec_GridFilled.id) rec k (lbody (sub spec_GridFilled.body [1, 1, 1, 0, 1, 0]))) (kAt PP (orc spec_GridFilled.id) rec k spec_GridFilled.body [1, 1, 1, 0, 1, 0] [] (K0 PP Go.Proofs.Try.f100)) n (St.of 25 [(0, .sl 1 x0), (5, .int .i64 x5), (6, .int .i64 x6)] []) H := by
  intro n
  induction n with
  | zero => intros; rfl
  | succ n ih =>
    intros x0 x5 x6 H
    simp only [spec_GridFilled.l0, spec_GridFilled.j1_eq rec k n (spec_GridFilled.l0 rec k n) (fun x0 x5 x6 H => ih x0 x5 x6 H), spec_GridFilled.j2_eq rec k, ih, -eq_self]
    kernel_rfl
theorem spec_GridFilled.f_eq (rec : Rec) (k : Nat) : ∀ a0 a1 H, spec_GridFilled.f rec k a0 a1 H = ex PP (orc spec_GridFilled.id) rec k spec_GridFilled.body (St.of 25 [(0, .sl 1 a0), (1, .int .i64 a1)] []) H (K0 PP Go.Proofs.Try.f100) := by
  intros a0 a1 H
  unfold spec_GridFilled.f
  try simp only [spec_GridFilled.l0_eq rec k, -eq_self]
  kernel_rfl
theorem spec_GridFilled.call (k : Nat) : ∀ a0 a1 H, callF PP orc (k + 1) spec_GridFilled.id [.sl 1 a0, .int .i64 a1] H = spec_GridFilled.f (callF PP orc k) k a0 a1 H := by
  intros a0 a1 H
  rw [callF_at (fn := Go.Proofs.Try.f100) (c := spec_GridFilled.body) Go.Proofs.Try.func100 (by kernel_rfl) (Nat.le_of_ble_eq_true (by kernel_rfl)), spec_GridFilled.f_eq]
  kernel_rfl
noncomputable def impl_LineCells.body : Code := (Go.Proofs.Try.f93).body.getD .skip
noncomputable def impl_LineCells.j3 (rec : Rec) (k : Nat) (L2 : Int → Int → Sl → Int → Int → Hp → An) (x0 : Int) (x1 : Int) (x5 : Sl) (x22 : Int) (x23 : Int) (H : Hp) : An := L2 x0 x1 x5 x22 (IntKind.i64.wrap (x23 + 1)) H
noncomputable def impl_LineCells.j4 (rec : Rec) (k : Nat) (x5 : Sl) (H : Hp) : An := some (.sl 1 x5, H)
noncomputable def impl_LineCells.l2 (rec : Rec) (k : Nat) : Nat → Int → Int → Sl → Int → Int → Hp → An
  | 0, _, _, _, _, _, _ => none
  | n + 1, x0, x1, x5, x22, x23, H => bif decide (x23 < x22) then bif decide (x1 < x0) then (H.app 1 x5 1 [.int .i64 (IntKind.i64.wrap ((IntKind.i64.wrap (x1 * x0)) + x23))]).bind fun w3 => impl_LineCells.j3 rec k (impl_LineCells.l2 rec k n) x0 x1 w3.1 x22 x23 w3.2 else (H.app 1 x5 1 [.int .i64 (IntKind.i64.wrap ((IntKind.i64.wrap ((IntKind.i64.wrap (x23 * x0)) + x1)) - x0))]).bind fun w4 => impl_LineCells.j3 rec k (impl_LineCells.l2 rec k n) x0 x1 w4.1 x22 x23 w4.2 else impl_LineCells.j4 rec k x5 H
noncomputable def impl_LineCells.j1 (rec : Rec) (k : Nat) (x0 : Int) (x1 : Int) (H : Hp) : An := if 0 ≤ (0 : Int) ∧ (0 : Int) ≤ x0 ∧ (x0 : Int) ≤ 1073741824 ∧ 8 ≤ 8192 ∧ 0 < 1 then impl_LineCells.l2 rec k k x0 x1 (Sl.mk false H.length 0 (0 : Int).toNat) x0 0 (H ++ [some (Blk.mk false (List.replicate (0 : Int).toNat [.int .i64 0]).flatten)]) else none
noncomputable def impl_LineCells.j0 (rec : Rec) (k : Nat) (x0 : Int) (x1 : Int) (x19 : Bool) (H : Hp) : An := bif x19 then some (.sl 1 Sl.none, H) else impl_LineCells.j1 rec k x0 x1 H
noncomputable def impl_LineCells.f (rec : Rec) (k : Nat) (a0 : Int) (a1 : Int) (H : Hp) : An := (rec impl_sizeOk.id [.int .i64 a0] H).bind fun r1 => r1.1.toB.bind fun b2 => bif !b2 then impl_LineCells.j0 rec k a0 a1 true r1.2 else bif decide (a1 < 0) then impl_LineCells.j0 rec k a0 a1 true r1.2 else impl_LineCells.j0 rec k a0 a1 (decide (a1 ≥ (IntKind.i64.wrap (2 * a0)))) r1.2
theorem impl_LineCells.j3_eq (rec : Rec) (k : Nat) (n2 : Nat) (L2 : Int → Int → Sl → Int → Int → Hp → An) (hL2 : ∀ x0 x1 x5 x22 x23 H, L2 x0 x1 x5 x22 x23 H = iter ((orc impl_LineCells.id).at (lbody (sub impl_LineCells.body [1, 1, 1, 0, 1, 0]))) (ex PP (orc impl_LineCells.id) rec k (lbody (sub impl_LineCells.body [1, 1, 1, 0, 1, 0]))) (kAt PP (orc impl_LineCells.id) rec k impl_LineCells.body [1, 1, 1, 0, 1, 0] [] (K0 PP Go.Proofs.Try.f93)) n2 (St.of 49 [(0, .int .i64 x0), (1, .int .i64 x1), (5, .sl 1 x5), (22, .int .i64 x22), (23, .int .i64 x23)] []) H) : ∀ x0 x1 x5 x22 x23 H, impl_LineCells.j3 rec k L2 x0 x1 x5 x22 x23 H = ex PP (orc impl_LineCells.id) rec k (sub impl_LineCells.body [1, 1, 1, 0, 1, 0, 0, 1, 1, 1]) (St.of 49 [(0, .int .i64 x0), (1, .int .i64 x1), (5, .sl 1 x5), (22, .int .i64 x22), (23, .int .i64 x23)] []) H (kAt PP (orc impl_LineCells.id) rec k impl_LineCells.body [1, 1, 1, 0, 1, 0, 0, 1, 1, 1] [n2] (K0 PP Go.Proofs.Try.f93)) := by
  intros x0 x1 x5 x22 x23 H
  unfold impl_LineCells.j3
  try simp only [hL2, -eq_self]
  kernel_rfl
theorem impl_LineCells.j4_eq (rec : Rec) (k : Nat) : ∀ x5 H, impl_LineCells.j4 rec k x5 H = ex PP (orc impl_LineCells.id) rec k (sub impl_LineCells.body [1, 1, 1, 1]) (St.of 49 [(5, .sl 1 x5)] []) H (kAt PP (orc impl_LineCells.id) rec k impl_LineCells.body [1, 1, 1, 1] [] (K0 PP Go.Proofs.Try.f93)) := by
  intros x5 H
  unfold impl_LineCells.j4
  kernel_rfl
theorem impl_LineCells.l2_eq (rec : Rec) (k : Nat) : ∀ n x0 x1 x5 x22 x23 H, impl_LineCells.l2 rec k n x0 x1 x5 x22 x23 H = iter ((orc impl_LineCells.id).at (lbody (sub impl_LineCells.body [1, 1, 1, 0, 1, 0]))) (ex PP (orc impl_LineCells.id) rec k (lbody (sub impl_LineCells.body [1, 1, 1, 0, 1, 0]))) (kAt PP (orc impl_LineCells.id) rec k impl_LineCells.body [1, 1, 1, 0, 1, 0] [] (K0 PP Go.Proofs.Try.f93)) n (St.of 49 [(0, .int .i64 x0), (1, .int .i64 x1), (5, .sl 1 x5), (22, .int .i64 x22), (23, .int .i64 x23)] []) H := by
  intro n
  induction n with
  | zero => intros; rfl
  | succ n ih =>
    intros x0 x1 x5 x22 x23 H
    simp only [impl_LineCells.l2, impl_LineCells.j3_eq rec k n (impl_LineCells.l2 rec k n) (fun x0 x1 x5 x22 x23 H => ih x0 x1 x5 x22 x23 H), impl_LineCells.j4_eq rec k, ih, -eq_self]
    kernel_rfl
theorem impl_LineCells.j1_eq (rec : Rec) (k : Nat) : ∀ x0 x1 H, impl_LineCells.j1 rec k x0 x1 H = ex PP (orc impl_LineCells.id) rec k (sub impl_LineCells.body [1, 1]) (St.of 49 [(0, .int .i64 x0), (1, .int .i64 x1)] []) H (kAt PP (orc impl_LineCells.id) rec k impl_LineCells.body [1, 1] [] (K0 PP Go.Proofs.Try.f93)) := by
  intros x0 x1 H
  unfold impl_LineCells.j1
  try simp only [impl_LineCells.l2_eq rec k, -eq_self]
  kernel_rfl
theorem impl_LineCells.j0_eq (rec : Rec) (k : Nat) : ∀ x0 x1 x19 H, impl_LineCells.j0 rec k x0 x1 x19 H = ex PP (orc impl_LineCells.id) rec k (sub impl_LineCells.body [1, 0, 1]) (St.of 49 [(0, .int .i64 x0), (1, .int .i64 x1), (19, .bool x19)] []) H (kAt PP (orc impl_LineCells.id) rec k impl_LineCells.body [1, 0, 1] [] (K0 PP Go.Proofs.Try.f93)) := by
  intros x0 x1 x19 H
  unfold impl_LineCells.j0
  try simp only [impl_LineCells.j1_eq rec k, -eq_self]
  kernel_rfl
theorem impl_LineCells.f_eq (rec : Rec) (k : Nat) : ∀ a0 a1 H, impl_LineCells.f rec k a0 a1 H = ex PP (orc impl_LineCells.id) rec k impl_LineCells.body (St.of 49 [(0, .int .i64 a0), (1, .int .i64 a1)] []) H (K0 PP Go.Proofs.Try.f93) := by
  intros a0 a1 H
  unfold impl_LineCells.f
  try simp only [impl_LineCells.j0_eq rec k, -eq_self]
  kernel_rfl
theorem impl_LineCells.call (k : Nat) : ∀ a0 a1 H, callF PP orc (k + 1) impl_LineCells.id [.int .i64 a0, .int .i64 a1] H = impl_LineCells.f (callF PP orc k) k a0 a1 H := by
  intros a0 a1 H
  rw [callF_at (fn := Go.Proofs.Try.f93) (c := impl_LineCells.body) Go.Proofs.Try.func93 (by kernel_rfl) (Nat.le_of_ble_eq_true (by kernel_rfl)), impl_LineCells.f_eq]
  kernel_rfl
noncomputable def spec_LineCells.body : Code := (Go.Proofs.Try.f95).body.getD .skip
noncomputable def spec_LineCells.j3 (rec : Rec) (k : Nat) (x5 : Sl) (H : Hp) : An := some (.sl 1 x5, H)
noncomputable def spec_LineCells.j4 (rec : Rec) (k : Nat) (L0 : Int → Int → Sl → Int → Hp → An) (x0 : Int) (x1 : Int) (x5 : Sl) (x6 : Int) (H : Hp) : An := L0 x0 x1 x5 (IntKind.i64.wrap (x6 + 1)) H
noncomputable def spec_LineCells.j2 (rec : Rec) (k : Nat) (L0 : Int → Int → Sl → Int → Hp → An) (x0 : Int) (x1 : Int) (x5 : Sl) (x6 : Int) (H : Hp) : An := bif decide (x1 < x0) then (H.app 1 x5 1 [.int .i64 (IntKind.i64.wrap ((IntKind.i64.wrap (x1 * x0)) + x6))]).bind fun w5 => spec_LineCells.j4 rec k L0 x0 x1 w5.1 x6 w5.2 else (H.app 1 x5 1 [.int .i64 (IntKind.i64.wrap ((IntKind.i64.wrap ((IntKind.i64.wrap (x6 * x0)) + x1)) - x0))]).bind fun w6 => spec_LineCells.j4 rec k L0 x0 x1 w6.1 x6 w6.2
noncomputable def spec_LineCells.j1 (rec : Rec) (k : Nat) (L0 : Int → Int → Sl → Int → Hp → An) (x0 : Int) (x1 : Int) (x5 : Sl) (x6 : Int) (x21 : Bool) (H : Hp) : An := bif x21 then spec_LineCells.j2 rec k L0 x0 x1 x5 x6 H else spec_LineCells.j3 rec k x5 H
noncomputable def spec_LineCells.l0 (rec : Rec) (k : Nat) : Nat → Int → Int → Sl → Int → Hp → An
  | 0, _, _, _, _, _ => none
  | n + 1, x0, x1, x5, x6, H => bif decide (x6 < x0) then (rec spec_l1In.id [.int .i64 x0, .int .i64 2, .int .i64 4] H).bind fun r1 => r1.1.toB.bind fun b2 => bif b2 then (rec spec_l1In.id [.int .i64 x1, .int .i64 0, .int .i64 (IntKind.i64.wrap ((IntKind.i64.wrap (2 * x0)) - 1))] r1.2).bind fun r3 => r3.1.toB.bind fun b4 => spec_LineCells.j1 rec k (spec_LineCells.l0 rec k n) x0 x1 x5 x6 b4 r3.2 else spec_LineCells.j1 rec k (spec_LineCells.l0 rec k n) x0 x1 x5 x6 false r1.2 else spec_LineCells.j1 rec k (spec_LineCells.l0 rec k n) x0 x1 x5 x6 false H
noncomputable def spec_LineCells.f (rec : Rec) (k : Nat) (a0 : Int) (a1 : Int) (H : Hp) : An := spec_LineCells.l0 rec k k a0 a1 (Sl.mk false H.length 0 0) 0 (H ++ [some (Blk.mk false [])])
theorem spec_LineCells.j3_eq (rec : Rec) (k : Nat) : ∀ x5 H, spec_LineCells.j3 rec k x5 H = ex PP (orc spec_LineCells.id) rec k (sub spec_LineCells.body [1, 1, 1]) (St.of 46 [(5, .sl 1 x5)] []) H (kAt PP (orc spec_LineCells.id) rec k spec_LineCells.body [1, 1, 1] [] (K0 PP Go.Proofs.Try.f95)) := by
  intros x5 H
  unfold spec_LineCells.j3
  kernel_rfl
theorem spec_LineCells.j4_eq (rec : Rec) (k : Nat) (n0 : Nat) (L0 : Int → Int → Sl → Int → Hp → An) (hL0 : ∀ x0 x1 x5 x6 H, L0 x0 x1 x5 x6 H = iter ((orc spec_LineCells.id).at (lbody (sub spec_LineCells.body [1, 1, 0, 1, 0]))) (ex PP (orc spec_LineCells.id) rec k (lbody (sub spec_LineCells.body [1, 1, 0, 1, 0]))) (kAt PP (orc spec_LineCells.id) rec k spec_LineCells.body [1, 1, 0, 1, 0] [] (K0 PP Go.Proofs.Try.f95)) n0 (St.of 46 [(0, .int .i64 x0), (1, .int .i64 x1), (5, .sl 1 x5), (6, .int .i64 x6)] []) H) : ∀ x0 x1 x5 x6 H, spec_LineCells.j4 rec k L0 x0 x1 x5 x6 H = ex PP (orc spec_LineCells.id) rec k (sub spec_LineCells.body [1, 1, 0, 1, 0, 0, 1, 1]) (St.of 46 [(0, .int .i64 x0), (1, .int .i64 x1), (5, .sl 1 x5), (6, .int .i64 x6)] []) H (kAt PP (orc spec_LineCells.id) rec k spec_LineCells.body [1, 1, 0, 1, 0, 0, 1, 1] [n0] (K0 PP Go.Proofs.Try.f95)) := by
  intros x0 x1 x5 x6 H
  unfold spec_LineCells.j4
  try simp only [hL0, -eq_self]
  kernel_rfl
theorem spec_LineCells.j2_eq (rec : Rec) (k : Nat) (n0 : Nat) (L0 : Int → Int → Sl → Int → Hp → An) (hL0 : ∀ x0 x1 x5 x6 H, L0 x0 x1 x5 x6 H = iter ((orc spec_LineCells.id).at (lbody (sub spec_LineCells.body [1, 1, 0, 1, 0]))) (ex PP (orc spec_LineCells.id) rec k (lbody (sub spec_LineCells.body [1, 1, 0, 1, 0]))) (kAt PP (orc spec_LineCells.id) rec k spec_LineCells.body [1, 1, 0, 1, 0] [] (K0 PP Go.Proofs.Try.f95)) n0 (St.of 46 [(0, .int .i64 x0), (1, .int .i64 x1), (5, .sl 1 x5), (6, .int .i64 x6)] []) H) : ∀ x0 x1 x5 x6 H, spec_LineCells.j2 rec k L0 x0 x1 x5 x6 H = ex PP (orc spec_LineCells.id) rec k (sub spec_LineCells.body [1, 1, 0, 1, 0, 0, 1]) (St.of 46 [(0, .int .i64 x0), (1, .int .i64 x1), (5, .sl 1 x5), (6, .int .i64 x6)] []) H (kAt PP (orc spec_LineCells.id) rec k spec_LineCells.body [1, 1, 0, 1, 0, 0, 1] [n0] (K0 PP Go.Proofs.Try.f95)) := by
  intros x0 x1 x5 x6 H
  unfold spec_LineCells.j2
  try simp only [hL0, spec_LineCells.j4_eq rec k n0 L0 hL0, -eq_self]
  kernel_rfl
theorem spec_LineCells.j1_eq (rec : Rec) (k : Nat) (n0 : Nat) (L0 : Int → Int → Sl → Int → Hp → An) (hL0 : ∀ x0 x1 x5 x6 H, L0 x0 x1 x5 x6 H = iter ((orc spec_LineCells.id).at (lbody (sub spec_LineCells.body [1, 1, 0, 1, 0]))) (ex PP (orc spec_LineCells.id) rec k (lbody (sub spec_LineCells.body [1, 1, 0, 1, 0]))) (kAt PP (orc spec_LineCells.id) rec k spec_LineCells.body [1, 1, 0, 1, 0] [] (K0 PP Go.Proofs.Try.f95)) n0 (St.of 46 [(0, .int .i64 x0), (1, .int .i64 x1), (5, .sl 1 x5), (6, .int .i64 x6)] []) H) : ∀ x0 x1 x5 x6 x21 H, spec_LineCells.j1 rec k L0 x0 x1 x5 x6 x21 H = ex PP (orc spec_LineCells.id) rec k (sub spec_LineCells.body [1, 1, 0, 1, 0, 0, 0, 1]) (St.of 46 [(0, .int .i64 x0), (1, .int .i64 x1), (5, .sl 1 x5), (6, .int .i64 x6), (21, .bool x21)] []) H (kAt PP (orc spec_LineCells.id) rec k spec_LineCells.body [1, 1, 0, 1, 0, 0, 0, 1] [n0] (K0 PP Go.Proofs.Try.f95)) := by
  intros x0 x1 x5 x6 x21 H
  unfold spec_LineCells.j1
  try simp only [hL0, spec_LineCells.j2_eq rec k n0 L0 hL0, spec_LineCells.j3_eq rec k, -eq_self]
  kernel_rfl
theorem spec_LineCells.l0_eq (rec : Rec) (k : Nat) : ∀ n x0 x1 x5 x6 H, spec_LineCells.l0 rec k n x0 x1 x5 x6 H = iter ((orc spec_LineCells.id).at (lbody (sub spec_LineCells.body [1, 1, 0, 1, 0]))) (ex PP (orc spec_LineCells.id) rec k (lbody (sub spec_LineCells.body [1, 1, 0, 1, 0]))) (kAt PP (orc spec_LineCells.id) rec k spec_LineCells.body [1, 1, 0, 1, 0] [] (K0 PP Go.Proofs.Try.f95)) n (St.of 46 [(0, .int .i64 x0), (1, .int .i64 x1), (5, .sl 1 x5), (6, .int .i64 x6)] []) H := by
  intro n
  induction n with
  | zero => intros; rfl
  | succ n ih =>
    intros x0 x1 x5 x6 H
    simp only [spec_LineCells.l0, spec_LineCells.j1_eq rec k n (spec_LineCells.l0 rec k n) (fun x0 x1 x5 x6 H => ih x0 x1 x5 x6 H), ih, -eq_self]
    kernel_rfl
theorem spec_LineCells.f_eq (rec : Rec) (k : Nat) : ∀ a0 a1 H, spec_LineCells.f rec k a0 a1 H = ex PP (orc spec_LineCells.id) rec k spec_LineCells.body (St.of 46 [(0, .int .i64 a0), (1, .int .i64 a1)] []) H (K0 PP Go.Proofs.Try.f95) := by
  intros a0 a1 H
  unfold spec_LineCells.f
  try simp only [spec_LineCells.l0_eq rec k, -eq_self]
  kernel_rfl
theorem spec_LineCells.call (k : Nat) : ∀ a0 a1 H, callF PP orc (k + 1) spec_LineCells.id [.int .i64 a0, .int .i64 a1] H = spec_LineCells.f (callF PP orc k) k a0 a1 H := by
  intros a0 a1 H
  rw [callF_at (fn := Go.Proofs.Try.f95) (c := spec_LineCells.body) Go.Proofs.Try.func95 (by kernel_rfl) (Nat.le_of_ble_eq_true (by kernel_rfl)), spec_LineCells.f_eq]
  kernel_rfl
noncomputable def spec_l2Clash.body : Code := (Go.Proofs.Try.f120).body.getD .skip
noncomputable def spec_l2Clash.j3 (rec : Rec) (k : Nat) (L0 : Sl → Int → Int → Hp → An) (x0 : Sl) (x1 : Int) (x5 : Int) (H : Hp) : An := L0 x0 x1 (IntKind.i64.wrap (x5 + 1)) H
noncomputable def spec_l2Clash.j5 (rec : Rec) (k : Nat) (L0 : Sl → Int → Int → Hp → An) (L1 : Sl → Int → Int → Sl → Int → Int → Hp → An) (x0 : Sl) (x1 : Int) (x5 : Int) (x6 : Sl) (x7 : Int) (x8 : Int) (H : Hp) : An := L1 x0 x1 x5 x6 x7 (IntKind.i64.wrap (x8 + 1)) H
noncomputable def spec_l2Clash.j4 (rec : Rec) (k : Nat) (L0 : Sl → Int → Int → Hp → An) (L1 : Sl → Int → Int → Sl → Int → Int → Hp → An) (x0 : Sl) (x1 : Int) (x5 : Int) (x6 : Sl) (x7 : Int) (x8 : Int) (x9 : Int) (H : Hp) : An := if (x9 : Int) < 0 then none else spec_l2Clash.j5 rec k L0 L1 x0 x1 x5 x6 (IntKind.i64.wrap (((BitVec.ofInt IntKind.i64.bits x7 ||| BitVec.ofInt IntKind.i64.bits (IntKind.i64.wrap (1 * 2 ^ (min (x9 : Int).toNat IntKind.i64.bits)))).toNat : Int))) x8 H
noncomputable def spec_l2Clash.j2 (rec : Rec) (k : Nat) (L0 : Sl → Int → Int → Hp → An) (L1 : Sl → Int → Int → Sl → Int → Int → Hp → An) (x0 : Sl) (x1 : Int) (x5 : Int) (x6 : Sl) (x7 : Int) (x8 : Int) (x9 : Int) (x40 : Bool) (H : Hp) : An := bif x40 then some (.bool true, H) else spec_l2Clash.j4 rec k L0 L1 x0 x1 x5 x6 x7 x8 x9 H
noncomputable def spec_l2Clash.l1 (rec : Rec) (k : Nat) (L0 : Sl → Int → Int → Hp → An) : Nat → Sl → Int → Int → Sl → Int → Int → Hp → An
  | 0, _, _, _, _, _, _, _ => none
  | n + 1, x0, x1, x5, x6, x7, x8, H => bif decide (x8 < (x6.len : Int)) then bif decide (0 ≤ (x8 : Int)) && decide ((x8 : Int) < x6.len) then (ldI .i64 H x6.blk (x6.off + (x8 : Int).toNat * 1)).bind fun n3 => bif decide (0 ≤ (n3 : Int)) && decide ((n3 : Int) < x0.len) then (ldI .i64 H x0.blk (x0.off + (n3 : Int).toNat * 1)).bind fun n4 => bif decide (n4 > 0) then if (n4 : Int) < 0 then none else spec_l2Clash.j2 rec k L0 (spec_l2Clash.l1 rec k L0 n) x0 x1 x5 x6 x7 x8 n4 ((((x7 : Int).fdiv (2 ^ (min (n4 : Int).toNat IntKind.i64.bits)) : Int).tmod 2) == 1) H else spec_l2Clash.j2 rec k L0 (spec_l2Clash.l1 rec k L0 n) x0 x1 x5 x6 x7 x8 n4 false H else none else none else spec_l2Clash.j3 rec k L0 x0 x1 x5 H
noncomputable def spec_l2Clash.l0 (rec : Rec) (k : Nat) : Nat → Sl → Int → Int → Hp → An
  | 0, _, _, _, _ => none
  | n + 1, x0, x1, x5, H => bif decide (x5 < (IntKind.i64.wrap (2 * x1))) then (rec spec_LineCells.id [.int .i64 x1, .int .i64 x5] H).bind fun r1 => (r1.1.toS 1).bind fun s2 => spec_l2Clash.l1 rec k (spec_l2Clash.l0 rec k n) k x0 x1 x5 s2 0 0 r1.2 else some (.bool false, H)
noncomputable def spec_l2Clash.f (rec : Rec) (k : Nat) (a0 : Sl) (a1 : Int) (H : Hp) : An := spec_l2Clash.l0 rec k k a0 a1 0 H
theorem spec_l2Clash.j3_eq (rec : Rec) (k : Nat) (n0 : Nat) (L0 : Sl → Int → Int → Hp → An) (hL0 : ∀ x0 x1 x5 H, L0 x0 x1 x5 H = iter ((orc spec_l2Clash.id).at (lbody (sub spec_l2Clash.body [1, 0, 1, 0]))) (ex PP (orc spec_l2Clash.id) rec k (lbody (sub spec_l2Clash.body [1, 0, 1, 0]))) (kAt PP (orc spec_l2Clash.id) rec k spec_l2Clash.body [1, 0, 1, 0] [] (K0 PP Go.Proofs.Try.f120)) n0 (St.of 45 [(0, .sl 1 x0), (1, .int .i64 x1), (5, .int .i64 x5)] []) H) : ∀ x0 x1 x5 H, spec_l2Clash.j3 rec k L0 x0 x1 x5 H = ex PP (orc spec_l2Clash.id) rec k (sub spec_l2Clash.body [1, 0, 1, 0, 0, 1, 1]) (St.of 45 [(0, .sl 1 x0), (1, .int .i64 x1), (5, .int .i64 x5)] []) H (kAt PP (orc spec_l2Clash.id) rec k spec_l2Clash.body [1, 0, 1, 0, 0, 1, 1] [n0] (K0 PP Go.Proofs.Try.f120)) := by
  intros x0 x1 x5 H
  unfold spec_l2Clash.j3
  try simp only [hL0, -eq_self]
  kernel_rfl
theorem spec_l2Clash.j5_eq (rec : Rec) (k : Nat) (n0 : Nat) (L0 : Sl → Int → Int → Hp → An) (hL0 : ∀ x0 x1 x5 H, L0 x0 x1 x5 H = iter ((orc spec_l2Clash.id).at (lbody (sub spec_l2Clash.body [1, 0, 1, 0]))) (ex PP (orc spec_l2Clash.id) rec k (lbody (sub spec_l2Clash.body [1, 0, 1, 0]))) (kAt PP (orc spec_l2Clash.id) rec k spec_l2Clash.body [1, 0, 1, 0] [] (K0 PP Go.Proofs.Try.f120)) n0 (St.of 45 [(0, .sl 1 x0), (1, .int .i64 x1), (5, .int .i64 x5)] []) H) (n1 : Nat) (L1 : Sl → Int → Int → Sl → Int → Int → Hp → An) (hL1 : ∀ x0 x1 x5 x6 x7 x8 H, L1 x0 x1 x5 x6 x7 x8 H = iter ((orc spec_l2Clash.id).at (lbody (sub spec_l2Clash.body [1, 0, 1, 0, 0, 1, 0, 0, 1, 1, 1, 0]))) (ex PP (orc spec_l2Clash.id) rec k (lbody (sub spec_l2Clash.body [1, 0, 1, 0, 0, 1, 0, 0, 1, 1, 1, 0]))) (kAt PP (orc spec_l2Clash.id) rec k spec_l2Clash.body [1, 0, 1, 0, 0, 1, 0, 0, 1, 1, 1, 0] [n0] (K0 PP Go.Proofs.Try.f120)) n1 (St.of 45 [(0, .sl 1 x0), (1, .int .i64 x1), (5, .int .i64 x5), (6, .sl 1 x6), (7, .int .i64 x7), (8, .int .i64 x8)] []) H) : ∀ x0 x1 x5 x6 x7 x8 H, spec_l2Clash.j5 rec k L0 L1 x0 x1 x5 x6 x7 x8 H = ex PP (orc spec_l2Clash.id) rec k (sub spec_l2Clash.body [1, 0, 1, 0, 0, 1, 0, 0, 1, 1, 1, 0, 0, 1, 1]) (St.of 45 [(0, .sl 1 x0), (1, .int .i64 x1), (5, .int .i64 x5), (6, .sl 1 x6), (7, .int .i64 x7), (8, .int .i64 x8)] []) H (kAt PP (orc spec_l2Clash.id) rec k spec_l2Clash.body [1, 0, 1, 0, 0, 1, 0, 0, 1, 1, 1, 0, 0, 1, 1] [n0, n1] (K0 PP Go.Proofs.Try.f120)) := by
  intros x0 x1 x5 x6 x7 x8 H
  unfold spec_l2Clash.j5
  try simp only [hL0, hL1, -eq_self]
  kernel_rfl
theorem spec_l2Clash.j4_eq (rec : Rec) (k : Nat) (n0 : Nat) (L0 : Sl → Int → Int → Hp → An) (hL0 : ∀ x0 x1 x5 H, L0 x0 x1 x5 H = iter ((orc spec_l2Clash.id).at (lbody (sub spec_l2Clash.body [1, 0, 1, 0]))) (ex PP (orc spec_l2Clash.id) rec k (lbody (sub spec_l2Clash.body [1, 0, 1, 0]))) (kAt PP (orc spec_l2Clash.id) rec k spec_l2Clash.body [1, 0, 1, 0] [] (K0 PP Go.Proofs.Try.f120)) n0 (St.of 45 [(0, .sl 1 x0), (1, .int .i64 x1), (5, .int .i64 x5)] []) H) (n1 : Nat) (L1 : Sl → Int → Int → Sl → Int → Int → Hp → An) (hL1 : ∀ x0 x1 x5 x6 x7 x8 H, L1 x0 x1 x5 x6 x7 x8 H = iter ((orc spec_l2Clash.id).at (lbody (sub spec_l2Clash.body [1, 0, 1, 0, 0, 1, 0, 0, 1, 1, 1, 0]))) (ex PP (orc spec_l2Clash.id) rec k (lbody (sub spec_l2Clash.body [1, 0, 1, 0, 0, 1, 0, 0, 1, 1, 1, 0]))) (kAt PP (orc spec_l2Clash.id) rec k spec_l2Clash.body [1, 0, 1, 0, 0, 1, 0, 0, 1, 1, 1, 0] [n0] (K0 PP Go.Proofs.Try.f120)) n1 (St.of 45 [(0, .sl 1 x0), (1, .int .i64 x1), (5, .int .i64 x5), (6, .sl 1 x6), (7, .int .i64 x7), (8, .int .i64 x8)] []) H) : ∀ x0 x1 x5 x6 x7 x8 x9 H, spec_l2Clash.j4 rec k L0 L1 x0 x1 x5 x6 x7 x8 x9 H = ex PP (orc spec_l2Clash.id) rec k (sub spec_l2Clash.body [1, 0, 1, 0, 0, 1, 0, 0, 1, 1, 1, 0, 0, 1, 0, 0, 1, 1]) (St.of 45 [(0, .sl 1 x0), (1, .int .i64 x1), (5, .int .i64 x5), (6, .sl 1 x6), (7, .int .i64 x7), (8, .int .i64 x8), (9, .int .i64 x9)] []) H (kAt PP (orc spec_l2Clash.id) rec k spec_l2Clash.body [1, 0, 1, 0, 0, 1, 0, 0, 1, 1, 1, 0, 0, 1, 0, 0, 1, 1] [n0, n1] (K0 PP Go.Proofs.Try.f120)) := by
  intros x0 x1 x5 x6 x7 x8 x9 H
  unfold spec_l2Clash.j4
  try simp only [hL0, hL1, spec_l2Clash.j5_eq rec k n0 L0 hL0 n1 L1 hL1, -eq_self]
  kernel_rfl
theorem spec_l2Clash.j2_eq (rec : Rec) (k : Nat) (n0 : Nat) (L0 : Sl → Int → Int → Hp → An) (hL0 : ∀ x0 x1 x5 H, L0 x0 x1 x5 H = iter ((orc spec_l2Clash.id).at (lbody (sub spec_l2Clash.body [1, 0, 1, 0]))) (ex PP (orc spec_l2Clash.id) rec k (lbody (sub spec_l2Clash.body [1, 0, 1, 0]))) (kAt PP (orc spec_l2Clash.id) rec k spec_l2Clash.body [1, 0, 1, 0] [] (K0 PP Go.Proofs.Try.f120)) n0 (St.of 45 [(0, .sl 1 x0), (1, .int .i64 x1), (5, .int .i64 x5)] []) H) (n1 : Nat) (L1 : Sl → Int → Int → Sl → Int → Int → Hp → An) (hL1 : ∀ x0 x1 x5 x6 x7 x8 H, L1 x0 x1 x5 x6 x7 x8 H = iter ((orc spec_l2Clash.id).at (lbody (sub spec_l2Clash.body [1, 0, 1, 0, 0, 1, 0, 0, 1, 1, 1, 0]))) (ex PP (orc spec_l2Clash.id) rec k (lbody (sub spec_l2Clash.body [1, 0, 1, 0, 0, 1, 0, 0, 1, 1, 1, 0]))) (kAt PP (orc spec_l2Clash.id) rec k spec_l2Clash.body [1, 0, 1, 0, 0, 1, 0, 0, 1, 1, 1, 0] [n0] (K0 PP Go.Proofs.Try.f120)) n1 (St.of 45 [(0, .sl 1 x0), (1, .int .i64 x1), (5, .int .i64 x5), (6, .sl 1 x6), (7, .int .i64 x7), (8, .int .i64 x8)] []) H) : ∀ x0 x1 x5 x6 x7 x8 x9 x40 H, spec_l2Clash.j2 rec k L0 L1 x0 x1 x5 x6 x7 x8 x9 x40 H = ex PP (orc spec_l2Clash.id) rec k (sub spec_l2Clash.body [1, 0, 1, 0, 0, 1, 0, 0, 1, 1, 1, 0, 0, 1, 0, 0, 1, 0, 1]) (St.of 45 [(0, .sl 1 x0), (1, .int .i64 x1), (5, .int .i64 x5), (6, .sl 1 x6), (7, .int .i64 x7), (8, .int .i64 x8), (9, .int .i64 x9), (40, .bool x40)] []) H (kAt PP (orc spec_l2Clash.id) rec k spec_l2Clash.body [1, 0, 1, 0, 0, 1, 0, 0, 1, 1, 1, 0, 0, 1, 0, 0, 1, 0, 1] [n0, n1] (K0 PP Go.Proofs.Try.f120)) := by
  intros x0 x1 x5 x6 x7 x8 x9 x40 H
  unfold spec_l2Clash.j2
  try simp only [hL0, hL1, spec_l2Clash.j4_eq rec k n0 L0 hL0 n1 L1 hL1, -eq_self]
  kernel_rfl
theorem spec_l2Clash.l1_eq (rec : Rec) (k : Nat) (n0 : Nat) (L0 : Sl → Int → Int → Hp → An) (hL0 : ∀ x0 x1 x5 H, L0 x0 x1 x5 H = iter ((orc spec_l2Clash.id).at (lbody (sub spec_l2Clash.body [1, 0, 1, 0]))) (ex PP (orc spec_l2Clash.id) rec k (lbody (sub spec_l2Clash.body [1, 0, 1, 0]))) (kAt PP (orc spec_l2Clash.id) rec k spec_l2Clash.body [1, 0, 1, 0] [] (K0 PP Go.Proofs.Try.f120)) n0 (St.of 45 [(0, .sl 1 x0), (1, .int .i64 x1), (5, .int .i64 x5)] []) H) : ∀ n x0 x1 x5 x6 x7 x8 H, spec_l2Clash.l1 rec k L0 n x0 x1 x5 x6 x7 x8 H = iter ((orc spec_l2Clash.id).at (lbody (sub spec_l2Clash.body [1, 0, 1, 0, 0, 1, 0, 0, 1, 1, 1, 0]))) (ex PP (orc spec_l2Clash.id) rec k (lbody (sub spec_l2Clash.body [1, 0, 1, 0, 0, 1, 0, 0, 1, 1, 1, 0]))) (kAt PP (orc spec_l2Clash.id) rec k spec_l2Clash.body [1, 0, 1, 0, 0, 1, 0, 0, 1, 1, 1, 0] [n0] (K0 PP Go.Proofs.Try.f120)) n (St.of 45 [(0, .sl 1 x0), (1, .int .i64 x1), (5, .int .i64 x5), (6, .sl 1 x6), (7, .int .i64 x7), (8, .int .i64 x8)] []) H := by
  intro n
  induction n with
  | zero => intros; rfl
  | succ n ih =>
    intros x0 x1 x5 x6 x7 x8 H
    simp only [spec_l2Clash.l1, hL0, spec_l2Clash.j2_eq rec k n0 L0 hL0 n (spec_l2Clash.l1 rec k L0 n) (fun x0 x1 x5 x6 x7 x8 H => ih x0 x1 x5 x6 x7 x8 H), spec_l2Clash.j3_eq rec k n0 L0 hL0, ih, -eq_self]
    kernel_rfl
theorem spec_l2Clash.l0_eq (rec : Rec) (k : Nat) : ∀ n x0 x1 x5 H, spec_l2Clash.l0 rec k n x0 x1 x5 H = iter ((orc spec_l2Clash.id).at (lbody (sub spec_l2Clash.body [1, 0, 1, 0]))) (ex PP (orc spec_l2Clash.id) rec k (lbody (sub spec_l2Clash.body [1, 0, 1, 0]))) (kAt PP (orc spec_l2Clash.id) rec k spec_l2Clash.body [1, 0, 1, 0] [] (K0 PP Go.Proofs.Try.f120)) n (St.of 45 [(0, .sl 1 x0), (1, .int .i64 x1), (5, .int .i64 x5)] []) H := by
  intro n
  induction n with
  | zero => intros; rfl
  | succ n ih =>
    intros x0 x1 x5 H
    simp only [spec_l2Clash.l0, spec_l2Clash.l1_eq rec k n (spec_l2Clash.l0 rec k n) (fun x0 x1 x5 H => ih x0 x1 x5 H), ih, -eq_self]
    kernel_rfl
theorem spec_l2Clash.f_eq (rec : Rec) (k : Nat) : ∀ a0 a1 H, spec_l2Clash.f rec k a0 a1 H = ex PP (orc spec_l2Clash.id) rec k spec_l2Clash.body (St.of 45 [(0, .sl 1 a0), (1, .int .i64 a1)] []) H (K0 PP Go.Proofs.Try.f120) := by
  intros a0 a1 H
  unfold spec_l2Clash.f
  try simp only [spec_l2Clash.l0_eq rec k, -eq_self]
  kernel_rfl
theorem spec_l2Clash.call (k : Nat) : ∀ a0 a1 H, callF PP orc (k + 1) spec_l2Clash.id [.sl 1 a0, .int .i64 a1] H = spec_l2Clash.f (callF PP orc k) k a0 a1 H := by
  intros a0 a1 H
  rw [callF_at (fn := Go.Proofs.Try.f120) (c := spec_l2Clash.body) Go.Proofs.Try.func120 (by kernel_rfl) (Nat.le_of_ble_eq_true (by kernel_rfl)), spec_l2Clash.f_eq]
  kernel_rfl
noncomputable def impl_SquareFits.body : Code := (Go.Proofs.Try.f56).body.getD .skip
noncomputable def impl_SquareFits.j3 (rec : Rec) (k : Nat) (L0 : Sl → Int → Int → Int → Hp → An) (x0 : Sl) (x1 : Int) (x14 : Int) (x15 : Int) (H : Hp) : An := L0 x0 x1 x14 (IntKind.i64.wrap (x15 + 1)) H
noncomputable def impl_SquareFits.j5 (rec : Rec) (k : Nat) (L0 : Sl → Int → Int → Int → Hp → An) (L1 : Sl → Int → Nat → Nat → Int → Int → Sl → Int → Int → Hp → An) (x0 : Sl) (x1 : Int) (x6b : Nat) (x6o : Nat) (x14 : Int) (x15 : Int) (x21 : Sl) (x22 : Int) (x23 : Int) (H : Hp) : An := L1 x0 x1 x6b x6o x14 x15 x21 x22 (IntKind.i64.wrap (x23 + 1)) H
noncomputable def impl_SquareFits.j4 (rec : Rec) (k : Nat) (L0 : Sl → Int → Int → Int → Hp → An) (L1 : Sl → Int → Nat → Nat → Int → Int → Sl → Int → Int → Hp → An) (x0 : Sl) (x1 : Int) (x6b : Nat) (x6o : Nat) (x8 : Int) (x14 : Int) (x15 : Int) (x21 : Sl) (x22 : Int) (x23 : Int) (H : Hp) : An := bif decide (0 ≤ (x8 : Int)) && decide ((x8 : Int) < x0.len) then (ldI .i64 H x0.blk (x0.off + (x8 : Int).toNat * 1)).bind fun n10 => bif decide (0 ≤ (n10 : Int)) && decide ((n10 : Int) < ((5 : Nat) : Int)) then (H.sto x6b (x6o + (n10 : Int).toNat * 1) [.bool true]).bind fun H11 => impl_SquareFits.j5 rec k L0 L1 x0 x1 x6b x6o x14 x15 x21 x22 x23 H11 else none else none
noncomputable def impl_SquareFits.j2 (rec : Rec) (k : Nat) (L0 : Sl → Int → Int → Int → Hp → An) (L1 : Sl → Int → Nat → Nat → Int → Int → Sl → Int → Int → Hp → An) (x0 : Sl) (x1 : Int) (x6b : Nat) (x6o : Nat) (x8 : Int) (x14 : Int) (x15 : Int) (x21 : Sl) (x22 : Int) (x23 : Int) (x39 : Bool) (H : Hp) : An := bif x39 then some (.bool false, H) else impl_SquareFits.j4 rec k L0 L1 x0 x1 x6b x6o x8 x14 x15 x21 x22 x23 H
noncomputable def impl_SquareFits.l1 (rec : Rec) (k : Nat) (L0 : Sl → Int → Int → Int → Hp → An) : Nat → Sl → Int → Nat → Nat → Int → Int → Sl → Int → Int → Hp → An
  | 0, _, _, _, _, _, _, _, _, _, _ => none
  | n + 1, x0, x1, x6b, x6o, x14, x15, x21, x22, x23, H => bif decide (x23 < x22) then bif decide (0 ≤ (x23 : Int)) && decide ((x23 : Int) < x21.len) then (ldI .i64 H x21.blk (x21.off + (x23 : Int).toNat * 1)).bind fun n6 => bif decide (0 ≤ (n6 : Int)) && decide ((n6 : Int) < x0.len) then (ldI .i64 H x0.blk (x0.off + (n6 : Int).toNat * 1)).bind fun n7 => bif decide (n7 > 0) then bif decide (0 ≤ (n6 : Int)) && decide ((n6 : Int) < x0.len) then (ldI .i64 H x0.blk (x0.off + (n6 : Int).toNat * 1)).bind fun n8 => bif decide (0 ≤ (n8 : Int)) && decide ((n8 : Int) < ((5 : Nat) : Int)) then (ldB H x6b (x6o + (n8 : Int).toNat * 1)).bind fun b9 => impl_SquareFits.j2 rec k L0 (impl_SquareFits.l1 rec k L0 n) x0 x1 x6b x6o n6 x14 x15 x21 x22 x23 b9 H else none else none else impl_SquareFits.j2 rec k L0 (impl_SquareFits.l1 rec k L0 n) x0 x1 x6b x6o n6 x14 x15 x21 x22 x23 false H else none else none else impl_SquareFits.j3 rec k L0 x0 x1 x14 x15 H
noncomputable def impl_SquareFits.l0 (rec : Rec) (k : Nat) : Nat → Sl → Int → Int → Int → Hp → An
  | 0, _, _, _, _, _ => none
  | n + 1, x0, x1, x14, x15, H => bif decide (x15 < x14) then ((H ++ [some (Blk.mk false [.bool false, .bool false, .bool false, .bool false, .bool false])]).sto H.length 0 [.bool false, .bool false, .bool false, .bool false, .bool false]).bind fun H3 => (rec impl_LineCells.id [.int .i64 x1, .int .i64 x15] H3).bind fun r4 => (r4.1.toS 1).bind fun s5 => impl_SquareFits.l1 rec k (impl_SquareFits.l0 rec k n) k x0 x1 H.length 0 x14 x15 s5 (s5.len : Int) 0 r4.2 else some (.bool true, H)
noncomputable def impl_SquareFits.f (rec : Rec) (k : Nat) (a0 : Sl) (a1 : Int) (H : Hp) : An := (rec impl_GridValid.id [.sl 1 a0, .int .i64 a1] H).bind fun r1 => r1.1.toB.bind fun b2 => bif !b2 then some (.bool false, r1.2) else impl_SquareFits.l0 rec k k a0 a1 (IntKind.i64.wrap (2 * a1)) 0 r1.2
theorem impl_SquareFits.j3_eq (rec : Rec) (k : Nat) (n0 : Nat) (L0 : Sl → Int → Int → Int → Hp → An) (hL0 : ∀ x0 x1 x14 x15 H, L0 x0 x1 x14 x15 H = iter ((orc impl_SquareFits.id).at (lbody (sub impl_SquareFits.body [1, 1, 0, 1, 0]))) (ex PP (orc impl_SquareFits.id) rec k (lbody (sub impl_SquareFits.body [1, 1, 0, 1, 0]))) (kAt PP (orc impl_SquareFits.id) rec k impl_SquareFits.body [1, 1, 0, 1, 0] [] (K0 PP Go.Proofs.Try.f56)) n0 (St.of 47 [(0, .sl 1 x0), (1, .int .i64 x1), (14, .int .i64 x14), (15, .int .i64 x15)] []) H) : ∀ x0 x1 x14 x15 H, impl_SquareFits.j3 rec k L0 x0 x1 x14 x15 H = ex PP (orc impl_SquareFits.id) rec k (sub impl_SquareFits.body [1, 1, 0, 1, 0, 0, 1, 1, 1]) (St.of 47 [(0, .sl 1 x0), (1, .int .i64 x1), (14, .int .i64 x14), (15, .int .i64 x15)] []) H (kAt PP (orc impl_SquareFits.id) rec k impl_SquareFits.body [1, 1, 0, 1, 0, 0, 1, 1, 1] [n0] (K0 PP Go.Proofs.Try.f56)) := by
  intros x0 x1 x14 x15 H
  unfold impl_SquareFits.j3
  try simp only [hL0, -eq_self]
  kernel_rfl
theorem impl_SquareFits.j5_eq (rec : Rec) (k : Nat) (n0 : Nat) (L0 : Sl → Int → Int → Int → Hp → An) (hL0 : ∀ x0 x1 x14 x15 H, L0 x0 x1 x14 x15 H = iter ((orc impl_SquareFits.id).at (lbody (sub impl_SquareFits.body [1, 1, 0, 1, 0]))) (ex PP (orc impl_SquareFits.id) rec k (lbody (sub impl_SquareFits.body [1, 1, 0, 1, 0]))) (kAt PP (orc impl_SquareFits.id) rec k impl_SquareFits.body [1, 1, 0, 1, 0] [] (K0 PP Go.Proofs.Try.f56)) n0 (St.of 47 [(0, .sl 1 x0), (1, .int .i64 x1), (14, .int .i64 x14), (15, .int .i64 x15)] []) H) (n1 : Nat) (L1 : Sl → Int → Nat → Nat → Int → Int → Sl → Int → Int → Hp → An) (hL1 : ∀ x0 x1 x6b x6o x14 x15 x21 x22 x23 H, L1 x0 x1 x6b x6o x14 x15 x21 x22 x23 H = iter ((orc impl_SquareFits.id).at (lbody (sub impl_SquareFits.body [1, 1, 0, 1, 0, 0, 1, 1, 0, 0, 1, 1, 1, 0]))) (ex PP (orc impl_SquareFits.id) rec k (lbody (sub impl_SquareFits.body [1, 1, 0, 1, 0, 0, 1, 1, 0, 0, 1, 1, 1, 0]))) (kAt PP (orc impl_SquareFits.id) rec k impl_SquareFits.body [1, 1, 0, 1, 0, 0, 1, 1, 0, 0, 1, 1, 1, 0] [n0] (K0 PP Go.Proofs.Try.f56)) n1 (St.of 47 [(0, .sl 1 x0), (1, .int .i64 x1), (6, .ptr x6b x6o), (14, .int .i64 x14), (15, .int .i64 x15), (21, .sl 1 x21), (22, .int .i64 x22), (23, .int .i64 x23)] []) H) : ∀ x0 x1 x6b x6o x14 x15 x21 x22 x23 H, impl_SquareFits.j5 rec k L0 L1 x0 x1 x6b x6o x14 x15 x21 x22 x23 H = ex PP (orc impl_SquareFits.id) rec k (sub impl_SquareFits.body [1, 1, 0, 1, 0, 0, 1, 1, 0, 0, 1, 1, 1, 0, 0, 1, 1, 1]) (St.of 47 [(0, .sl 1 x0), (1, .int .i64 x1), (6, .ptr x6b x6o), (14, .int .i64 x14), (15, .int .i64 x15), (21, .sl 1 x21), (22, .int .i64 x22), (23, .int .i64 x23)] []) H (kAt PP (orc impl_SquareFits.id) rec k impl_SquareFits.body [1, 1, 0, 1, 0, 0, 1, 1, 0, 0, 1, 1, 1, 0, 0, 1, 1, 1] [n0, n1] (K0 PP Go.Proofs.Try.f56)) := by
  intros x0 x1 x6b x6o x14 x15 x21 x22 x23 H
  unfold impl_SquareFits.j5
  try simp only [hL0, hL1, -eq_self]
  kernel_rfl
theorem impl_SquareFits.j4_eq (rec : Rec) (k : Nat) (n0 : Nat) (L0 : Sl → Int → Int → Int → Hp → An) (hL0 : ∀ x0 x1 x14 x15 H, L0 x0 x1 x14 x15 H = iter ((orc impl_SquareFits.id).at (lbody (sub impl_SquareFits.body [1, 1, 0, 1, 0]))) (ex PP (orc impl_SquareFits.id) rec k (lbody (sub impl_SquareFits.body [1, 1, 0, 1, 0]))) (kAt PP (orc impl_SquareFits.id) rec k impl_SquareFits.body [1, 1, 0, 1, 0] [] (K0 PP Go.Proofs.Try.f56)) n0 (St.of 47 [(0, .sl 1 x0), (1, .int .i64 x1), (14, .int .i64 x14), (15, .int .i64 x15)] []) H) (n1 : Nat) (L1 : Sl → Int → Nat → Nat → Int → Int → Sl → Int → Int → Hp → An) (hL1 : ∀ x0 x1 x6b x6o x14 x15 x21 x22 x23 H, L1 x0 x1 x6b x6o x14 x15 x21 x22 x23 H = iter ((orc impl_SquareFits.id).at (lbody (sub impl_SquareFits.body [1, 1, 0, 1, 0, 0, 1, 1, 0, 0, 1, 1, 1, 0]))) (ex PP (orc impl_SquareFits.id) rec k (lbody (sub impl_SquareFits.body [1, 1, 0, 1, 0, 0, 1, 1, 0, 0, 1, 1, 1, 0]))) (kAt PP (orc impl_SquareFits.id) rec k impl_SquareFits.body [1, 1, 0, 1, 0, 0, 1, 1, 0, 0, 1, 1, 1, 0] [n0] (K0 PP Go.Proofs.Try.f56)) n1 (St.of 47 [(0, .sl 1 x0), (1, .int .i64 x1), (6, .ptr x6b x6o), (14, .int .i64 x14), (15, .int .i64 x15), (21, .sl 1 x21), (22, .int .i64 x22), (23, .int .i64 x23)] []) H) : ∀ x0 x1 x6b x6o x8 x14 x15 x21 x22 x23 H, impl_SquareFits.j4 rec k L0 L1 x0 x1 x6b x6o x8 x14 x15 x21 x22 x23 H = ex PP (orc impl_SquareFits.id) rec k (sub impl_SquareFits.body [1, 1, 0, 1, 0, 0, 1, 1, 0, 0, 1, 1, 1, 0, 0, 1, 1, 0, 0, 1, 1]) (St.of 47 [(0, .sl 1 x0), (1, .int .i64 x1), (6, .ptr x6b x6o), (8, .int .i64 x8), (14, .int .i64 x14), (15, .int .i64 x15), (21, .sl 1 x21), (22, .int .i64 x22), (23, .int .i64 x23)] []) H (kAt PP (orc impl_SquareFits.id) rec k impl_SquareFits.body [1, 1, 0, 1, 0, 0, 1, 1, 0, 0, 1, 1, 1, 0, 0, 1, 1, 0, 0, 1, 1] [n0, n1] (K0 PP Go.Proofs.Try.f56)) := by
  intros x0 x1 x6b x6o x8 x14 x15 x21 x22 x23 H
  unfold impl_SquareFits.j4
  try simp only [hL0, hL1, impl_SquareFits.j5_eq rec k n0 L0 hL0 n1 L1 hL1, -eq_self]
  kernel_rfl
theorem impl_SquareFits.j2_eq (rec : Rec) (k : Nat) (n0 : Nat) (L0 : Sl → Int → Int → Int → Hp → An) (hL0 : ∀ x0 x1 x14 x15 H, L0 x0 x1 x14 x15 H = iter ((orc impl_SquareFits.id).at (lbody (sub impl_SquareFits.body [1, 1, 0, 1, 0]))) (ex PP (orc impl_SquareFits.id) rec k (lbody (sub impl_SquareFits.body [1, 1, 0, 1, 0]))) (kAt PP (orc impl_SquareFits.id) rec k impl_SquareFits.body [1, 1, 0, 1, 0] [] (K0 PP Go.Proofs.Try.f56)) n0 (St.of 47 [(0, .sl 1 x0), (1, .int .i64 x1), (14, .int .i64 x14), (15, .int .i64 x15)] []) H) (n1 : Nat) (L1 : Sl → Int → Nat → Nat → Int → Int → Sl → Int → Int → Hp → An) (hL1 : ∀ x0 x1 x6b x6o x14 x15 x21 x22 x23 H, L1 x0 x1 x6b x6o x14 x15 x21 x22 x23 H = iter ((orc impl_SquareFits.id).at (lbody (sub impl_SquareFits.body [1, 1, 0, 1, 0, 0, 1, 1, 0, 0, 1, 1, 1, 0]))) (ex PP (orc impl_SquareFits.id) rec k (lbody (sub impl_SquareFits.body [1, 1, 0, 1, 0, 0, 1, 1, 0, 0, 1, 1, 1, 0]))) (kAt PP (orc impl_SquareFits.id) rec k impl_SquareFits.body [1, 1, 0, 1, 0, 0, 1, 1, 0, 0, 1, 1, 1, 0] [n0] (K0 PP Go.Proofs.Try.f56)) n1 (St.of 47 [(0, .sl 1 x0), (1, .int .i64 x1), (6, .ptr x6b x6o), (14, .int .i64 x14), (15, .int .i64 x15), (21, .sl 1 x21), (22, .int .i64 x22), (23, .int .i64 x23)] []) H) : ∀ x0 x1 x6b x6o x8 x14 x15 x21 x22 x23 x39 H, impl_SquareFits.j2 rec k L0 L1 x0 x1 x6b x6o x8 x14 x15 x21 x22 x23 x39 H = ex PP (orc impl_SquareFits.id) rec k (sub impl_SquareFits.body [1, 1, 0, 1, 0, 0, 1, 1, 0, 0, 1, 1, 1, 0, 0, 1, 1, 0, 0, 1, 0, 1]) (St.of 47 [(0, .sl 1 x0), (1, .int .i64 x1), (6, .ptr x6b x6o), (8, .int .i64 x8), (14, .int .i64 x14), (15, .int .i64 x15), (21, .sl 1 x21), (22, .int .i64 x22), (23, .int .i64 x23), (39, .bool x39)] []) H (kAt PP (orc impl_SquareFits.id) rec k impl_SquareFits.body [1, 1, 0, 1, 0, 0, 1, 1, 0, 0, 1, 1, 1, 0, 0, 1, 1, 0, 0, 1, 0, 1] [n0, n1] (K0 PP Go.Proofs.Try.f56)) := by
  intros x0 x1 x6b x6o x8 x14 x15 x21 x22 x23 x39 H
  unfold impl_SquareFits.j2
  try simp only [hL0, hL1, impl_SquareFits.j4_eq rec k n0 L0 hL0 n1 L1 hL1, -eq_self]
  kernel_rfl
theorem impl_SquareFits.l1_eq (rec : Rec) (k : Nat) (n0 : Nat) (L0 : Sl → Int → Int → Int → Hp → An) (hL0 : ∀ x0 x1 x14 x15 H, L0 x0 x1 x14 x15 H = iter ((orc impl_SquareFits.id).at (lbody (sub impl_SquareFits.body [1, 1, 0, 1, 0]))) (ex PP (orc impl_SquareFits.id) rec k (lbody (sub impl_SquareFits.body [1, 1, 0, 1, 0]))) (kAt PP (orc impl_SquareFits.id) rec k impl_SquareFits.body [1, 1, 0, 1, 0] [] (K0 PP Go.Proofs.Try.f56)) n0 (St.of 47 [(0, .sl 1 x0), (1, .int .i64 x1), (14, .int .i64 x14), (15, .int .i64 x15)] []) H) : ∀ n x0 x1 x6b x6o x14 x15 x21 x22 x23 H, impl_SquareFits.l1 rec k L0 n x0 x1 x6b x6o x14 x15 x21 x22 x23 H = iter ((orc impl_SquareFits.id).at (lbody (sub impl_SquareFits.body [1, 1, 0, 1, 0, 0, 1, 1, 0, 0, 1, 1, 1, 0]))) (ex PP (orc impl_SquareFits.id) rec k (lbody (sub impl_SquareFits.body [1, 1, 0, 1, 0, 0, 1, 1, 0, 0, 1, 1, 1, 0]))) (kAt PP (orc impl_SquareFits.id) rec k impl_SquareFits.body [1, 1, 0, 1, 0, 0, 1, 1, 0, 0, 1, 1, 1, 0] [n0] (K0 PP Go.Proofs.Try.f56)) n (St.of 47 [(0, .sl 1 x0), (1, .int .i64 x1), (6, .ptr x6b x6o), (14, .int .i64 x14), (15, .int .i64 x15), (21, .sl 1 x21), (22, .int .i64 x22), (23, .int .i64 x23)] []) H := by
  intro n
  induction n with
  | zero => intros; rfl
  | succ n ih =>
    intros x0 x1 x6b x6o x14 x15 x21 x22 x23 H
    simp only [impl_SquareFits.l1, hL0, impl_SquareFits.j2_eq rec k n0 L0 hL0 n (impl_SquareFits.l1 rec k L0 n) (fun x0 x1 x6b x6o x14 x15 x21 x22 x23 H => ih x0 x1 x6b x6o x14 x15 x21 x22 x23 H), impl_SquareFits.j3_eq rec k n0 L0 hL0, ih, -eq_self]
    kernel_rfl
theorem impl_SquareFits.l0_eq (rec : Rec) (k : Nat) : ∀ n x0 x1 x14 x15 H, impl_SquareFits.l0 rec k n x0 x1 x14 x15 H = iter ((orc impl_SquareFits.id).at (lbody (sub impl_SquareFits.body [1, 1, 0, 1, 0]))) (ex PP (orc impl_SquareFits.id) rec k (lbody (sub impl_SquareFits.body [1, 1, 0, 1, 0]))) (kAt PP (orc impl_SquareFits.id) rec k impl_SquareFits.body [1, 1, 0, 1, 0] [] (K0 PP Go.Proofs.Try.f56)) n (St.of 47 [(0, .sl 1 x0), (1, .int .i64 x1), (14, .int .i64 x14), (15, .int .i64 x15)] []) H := by
  intro n
  induction n with
  | zero => intros; rfl
  | succ n ih =>
    intros x0 x1 x14 x15 H
    simp only [impl_SquareFits.l0, impl_SquareFits.l1_eq rec k n (impl_SquareFits.l0 rec k n) (fun x0 x1 x14 x15 H => ih x0 x1 x14 x15 H), ih, -eq_self]
    kernel_rfl
theorem impl_SquareFits.f_eq (rec : Rec) (k : Nat) : ∀ a0 a1 H, impl_SquareFits.f rec k a0 a1 H = ex PP (orc impl_SquareFits.id) rec k impl_SquareFits.body (St.of 47 [(0, .sl 1 a0), (1, .int .i64 a1)] []) H (K0 PP Go.Proofs.Try.f56) := by
  intros a0 a1 H
  unfold impl_SquareFits.f
  try simp only [impl_SquareFits.l0_eq rec k, -eq_self]
  kernel_rfl
theorem impl_SquareFits.call (k : Nat) : ∀ a0 a1 H, callF PP orc (k + 1) impl_SquareFits.id [.sl 1 a0, .int .i64 a1] H = impl_SquareFits.f (callF PP orc k) k a0 a1 H := by
  intros a0 a1 H
  rw [callF_at (fn := Go.Proofs.Try.f56) (c := impl_SquareFits.body) Go.Proofs.Try.func56 (by kernel_rfl) (Nat.le_of_ble_eq_true (by kernel_rfl)), impl_SquareFits.f_eq]
  kernel_rfl
end Go.Proofs.Ytjojhbdghhmeeaa.Rp
/- A kit for what the program's functions, as plain Lean functions on a heap, come to. No conditions. -/
set_option linter.unusedVariables false
set_option linter.unusedSimpArgs false
namespace Go.Proofs.Ytjojhbdghhmeeaa.Rp
open Go Go.RowKit Go.Proofs.Ytjojhbdghhmeeaa.Ab

theorem wr {n : Int} (h1 : -9223372036854775808 ≤ n) (h2 : n ≤ 9223372036854775807) : IntKind.i64.wrap n = n := by
  rw [IntWalk.i64_left]; exact IntWalk.wrap64_in n ⟨h1, h2⟩
theorem wrs {i : Nat} (h : i < 4611686018427387904) : IntKind.i64.wrap ((i : Int) + 1) = (i : Int) + 1 := wr (by omega) (by omega)
theorem set_next {α : Type} (l : List α) (d : α) (i j : Nat) (h : i < l.length) : (l.take i ++ List.replicate (j + 1) d).set i l[i] = l.take (i + 1) ++ List.replicate j d := by
  rw [List.set_append_right _ _ (by simp; omega), List.take_succ_eq_append_getElem h, List.append_assoc]
  simp [show min i l.length = i by omega, List.replicate_succ]


theorem pf_get {H H' : Hp} (g : H <+: H') {b : Nat} {x : Option Blk} (h : H[b]? = some x) : H'[b]? = some x := by
  obtain ⟨T, rfl⟩ := g
  have hb := (List.getElem?_eq_some_iff.1 h).1
  rw [List.getElem?_append_left hb]; exact h
theorem pf_cell {H H' : Hp} (g : H <+: H') {b o : Nat} {v : AV} (h : H.cell b o = some v) : H'.cell b o = some v := by
  unfold Hp.cell at h ⊢
  split at h
  · rename_i x hx; rw [pf_get g hx]; exact h
  · simp at h
theorem pf_reads {H H' : Hp} (g : H <+: H') {k : IntKind} {s : Sl} {l : List Int} (h : Reads k H s l) : Reads k H' s l := ⟨h.len, fun i hi => pf_cell g (h.cell i hi)⟩
theorem reads_at {H : Hp} {k : IntKind} {s : Sl} {l : List Int} (h : Reads k H s l) (i : Nat) (hi : i < l.length) : ldI k H s.blk (s.off + i) = some l[i] := by
  unfold ldI
  rw [h.cell i hi]
  simp [AV.toI]
theorem reads_nil {H : Hp} {k : IntKind} {s : Sl} (h : s.len = 0) : Reads k H s [] := ⟨h, fun i hi => absurd hi (Nat.not_lt_zero _)⟩

/-- A slice over a whole block that is new since H0, with cells c. -/
structure Own (sz : Nat) (H0 H : Hp) (s : Sl) (c : List AV) : Prop where
  nn : s.nil = false
  off : s.off = 0
  blk : H0.length ≤ s.blk
  get : H[s.blk]? = some (some ⟨false, c⟩)
  len : s.len * sz = c.length

/-- H' bears what H bears, but for the block b. -/
def But (b : Nat) (H H' : Hp) : Prop := ∀ (c : Nat) (x : Option Blk), c ≠ b → H[c]? = some x → H'[c]? = some x
theorem But.pf {b : Nat} {H H' H0 : Hp} (h : But b H H') (hb : H0.length ≤ b) (g : H0 <+: H) (hl : H.length ≤ H'.length) : H0 <+: H' := by
  have hl0 := g.length_le
  rw [List.prefix_iff_eq_take]
  apply List.ext_getElem?
  intro i
  by_cases hi : i < H0.length
  · rw [List.getElem?_take, if_pos hi]
    have e := List.getElem?_eq_getElem hi
    rw [e, h i _ (by omega) (pf_get g e)]
  · rw [List.getElem?_eq_none (by omega), List.getElem?_eq_none (by simp; omega)]
theorem But.cell {b : Nat} {H H' : Hp} (h : But b H H') {c o : Nat} (hc : c ≠ b) {v : AV} (hv : H.cell c o = some v) : H'.cell c o = some v := by
  unfold Hp.cell at hv ⊢
  split at hv
  · rename_i x hx; rw [h c _ hc hx]; exact hv
  · simp at hv
theorem But.reads {b : Nat} {H H' : Hp} (h : But b H H') {k : IntKind} {s : Sl} {l : List Int} (hs : s.blk ≠ b) (hr : Reads k H s l) : Reads k H' s l := ⟨hr.len, fun i hi => h.cell hs (hr.cell i hi)⟩
theorem But.own {b : Nat} {H H' H0 : Hp} (h : But b H H') {sz : Nat} {s : Sl} {c : List AV} (hs : s.blk ≠ b) (hr : Own sz H0 H s c) : Own sz H0 H' s c := ⟨hr.nn, hr.off, hr.blk, h _ _ hs hr.get, hr.len⟩

theorem own_cell {sz : Nat} {H0 H : Hp} {s : Sl} {c : List AV} (h : Own sz H0 H s c) (i : Nat) : H.cell s.blk (s.off + i) = c[i]? := by
  unfold Hp.cell; rw [h.get, h.off]; simp
theorem own_reads {k : IntKind} {H0 H : Hp} {s : Sl} {l : List Int} (h : Own 1 H0 H s (l.map (.int k))) : Reads k H s l :=
  ⟨by have := h.len; simpa using this, fun i hi => by rw [own_cell h]; simp [hi]⟩
theorem own_pf {sz : Nat} {H0 H H' : Hp} {s : Sl} {c : List AV} (h : Own sz H0 H s c) (g : H <+: H') : Own sz H0 H' s c := ⟨h.nn, h.off, h.blk, pf_get g h.get, h.len⟩
theorem own_base {sz : Nat} {H0 H1 H : Hp} {s : Sl} {c : List AV} (h : Own sz H1 H s c) (g : H0 <+: H1) : Own sz H0 H s c := ⟨h.nn, h.off, Nat.le_trans g.length_le h.blk, h.get, h.len⟩
theorem own_new (sz : Nat) (H : Hp) (c : List AV) (n : Nat) (hn : n * sz = c.length) : Own sz H (H ++ [some ⟨false, c⟩]) (Sl.mk false H.length 0 n) c := ⟨rfl, rfl, Nat.le_refl _, by simp, hn⟩

theorem own_sto {sz : Nat} {H0 H : Hp} {s : Sl} {c : List AV} (h : Own sz H0 H s c) (g : H0 <+: H) (o : Nat) (vs : List AV) (ho : o + vs.length ≤ c.length) :
    ∃ H', H.sto s.blk (s.off + o) vs = some H' ∧ H0 <+: H' ∧ Own sz H0 H' s (c.take o ++ vs ++ c.drop (o + vs.length)) ∧ But s.blk H H' ∧ H'.length = H.length := by
  have hb := (List.getElem?_eq_some_iff.1 h.get).1
  have hbut : But s.blk H (H.set s.blk (some ⟨false, c.take o ++ vs ++ c.drop (o + vs.length)⟩)) := fun d x hd hx => by rw [List.getElem?_set_ne (Ne.symm hd)]; exact hx
  refine ⟨H.set s.blk (some ⟨false, c.take o ++ vs ++ c.drop (o + vs.length)⟩), ?_, hbut.pf h.blk g (by simp), ⟨h.nn, h.off, h.blk, ?_, ?_⟩, hbut, by simp⟩
  · unfold Hp.sto
    rw [h.get, h.off]
    simp [ho]
  · rw [List.getElem?_set_self hb]
  · rw [h.len]; simp; omega
theorem own_app {sz : Nat} {H0 H : Hp} {s : Sl} {c : List AV} (h : Own sz H0 H s c) (g : H0 <+: H) (n : Nat) (vs : List AV) (hn : 0 < n) (hl : s.len + n ≤ 1073741824) (h1 : sz ≤ 1024) (h2 : 0 < sz) (hv : vs.length = n * sz) :
    ∃ H', H.app sz s n vs = some (Sl.mk false H.length 0 (s.len + n), H') ∧ H0 <+: H' ∧ Own sz H0 H' (Sl.mk false H.length 0 (s.len + n)) (c ++ vs) ∧ But s.blk H H' ∧ H'.length = H.length + 1 := by
  have hb := (List.getElem?_eq_some_iff.1 h.get).1
  have hbut : But s.blk H (H.set s.blk none ++ [some ⟨false, c ++ vs⟩]) := fun d x hd hx => by
    have hd' := (List.getElem?_eq_some_iff.1 hx).1
    rw [List.getElem?_append_left (by simpa using hd'), List.getElem?_set_ne (Ne.symm hd)]; exact hx
  refine ⟨H.set s.blk none ++ [some ⟨false, c ++ vs⟩], ?_, hbut.pf h.blk g (by simp), ⟨rfl, rfl, ?_, by simp, ?_⟩, hbut, by simp⟩
  · unfold Hp.app
    rw [if_pos ⟨hl, h1, h2, hv⟩, if_neg (by omega), h.nn, h.get]
    simp only [Bool.false_eq_true, if_false]
    rw [if_pos ⟨trivial, h.off, h.len⟩]
  · exact g.length_le
  · simp only [List.length_append]; rw [Nat.add_mul, h.len, hv]
theorem own_app1 {H0 H : Hp} {s : Sl} {l : List Int} {k : IntKind} (h : Own 1 H0 H s (l.map (.int k))) (g : H0 <+: H) (n : Int) (hl : s.len < 1073741824) :
    ∃ H', H.app 1 s 1 [.int k n] = some (Sl.mk false H.length 0 (s.len + 1), H') ∧ H0 <+: H' ∧ Own 1 H0 H' (Sl.mk false H.length 0 (s.len + 1)) ((l ++ [n]).map (.int k)) ∧ But s.blk H H' ∧ H'.length = H.length + 1 := by
  have := own_app h g 1 [.int k n] (by omega) (by omega) (by omega) (by omega) rfl
  simpa using this
/-- A cell of a block of numbers is written. -/
theorem own_set {H0 H : Hp} {s : Sl} {l : List Int} {k : IntKind} (h : Own 1 H0 H s (l.map (.int k))) (g : H0 <+: H) (i : Nat) (hi : i < l.length) (n : Int) :
    ∃ H', H.sto s.blk (s.off + i) [.int k n] = some H' ∧ H0 <+: H' ∧ Own 1 H0 H' s ((l.set i n).map (.int k)) ∧ But s.blk H H' ∧ H'.length = H.length := by
  obtain ⟨H', a1, a2, a3, a4⟩ := own_sto h g i [.int k n] (by simp; omega)
  refine ⟨H', a1, a2, ?_, a4⟩
  have e : (l.set i n).map (AV.int k) = (l.map (.int k)).take i ++ [.int k n] ++ (l.map (.int k)).drop (i + 1) := by
    rw [List.set_eq_take_append_cons_drop, if_pos hi]; simp
  rw [e]; exact a3
end Go.Proofs.Ytjojhbdghhmeeaa.Rp
/- What the functions on grids come to: sizes, valid grids, filled cells. No conditions. -/
set_option linter.unusedVariables false
set_option linter.unusedSimpArgs false
namespace Go.Proofs.Ytjojhbdghhmeeaa.Rp
open Go Go.RowKit Go.Proofs.Ytjojhbdghhmeeaa.Ab

theorem dand (H : Hp) (a b : Prop) [Decidable a] [Decidable b] : (bif decide a then some (AV.bool (decide b), H) else some (AV.bool false, H)) = some (AV.bool (decide (a ∧ b)), H) := by
  by_cases a <;> by_cases b <;> simp [*]

theorem sizeOk_ok {k : Nat} (hk : 1 ≤ k) (n : Int) (H : Hp) : callF PP orc k impl_sizeOk.id [.int .i64 n] H = some (.bool (decide (2 ≤ n ∧ n ≤ 4)), H) := by
  obtain ⟨k, rfl⟩ : ∃ m, k = m + 1 := ⟨k - 1, by omega⟩
  rw [impl_sizeOk.call]
  exact dand H (n ≥ 2) (n ≤ 4)
theorem l1In_ok {k : Nat} (hk : 1 ≤ k) (n a b : Int) (H : Hp) : callF PP orc k spec_l1In.id [.int .i64 n, .int .i64 a, .int .i64 b] H = some (.bool (decide (a ≤ n ∧ n ≤ b)), H) := by
  obtain ⟨k, rfl⟩ : ∃ m, k = m + 1 := ⟨k - 1, by omega⟩
  rw [spec_l1In.call]
  exact dand H (n ≥ a) (n ≤ b)

/-- A grid of a size with values in 0..size. -/
def gridOk (l : List Int) (n : Int) : Bool := decide (2 ≤ n ∧ n ≤ 4) && decide ((l.length : Int) = n * n) && l.all fun v => decide (0 ≤ v) && decide (v ≤ n)
theorem gridOk_iff (l : List Int) (n : Int) : gridOk l n = true ↔ (2 ≤ n ∧ n ≤ 4) ∧ (l.length : Int) = n * n ∧ ∀ v ∈ l, 0 ≤ v ∧ v ≤ n := by
  simp [gridOk, and_assoc]
theorem gridOk_len {l : List Int} {n : Int} (h : gridOk l n = true) : l.length ≤ 16 := by
  obtain ⟨⟨h1, h2⟩, h3, _⟩ := (gridOk_iff l n).1 h
  have : n = 2 ∨ n = 3 ∨ n = 4 := by omega
  rcases this with rfl | rfl | rfl <;> omega

theorem all_drop {p : Int → Bool} (l : List Int) (i : Nat) (h : i < l.length) : (l.drop i).all p = (p l[i] && (l.drop (i + 1)).all p) := by
  rw [List.drop_eq_getElem_cons h]; rfl

theorem implGridValid_l2 (rec : Rec) (k : Nat) {H : Hp} {s : Sl} {l : List Int} {m : Int} (hr : Reads .i64 H s l) (hl : l.length ≤ 1048576) :
    ∀ (j i n : Nat), i + j = l.length → j < n → impl_GridValid.l2 rec k n m s l.length i H = some (.bool ((l.drop i).all fun v => decide (0 ≤ v) && decide (v ≤ m)), H) := by
  intro j
  induction j with
  | zero =>
    intro i n hi hn
    obtain ⟨n, rfl⟩ : ∃ m, n = m + 1 := ⟨n - 1, by omega⟩
    simp [impl_GridValid.l2, show ¬ i < l.length by omega, List.drop_eq_nil_of_le (show l.length ≤ i by omega)]
  | succ j ih =>
    intro i n hi hn
    obtain ⟨n, rfl⟩ : ∃ m, n = m + 1 := ⟨n - 1, by omega⟩
    have h1 := hr.len
    have h2 : i < l.length := by omega
    have h3 := reads_at hr i h2
    have h4 := wrs (i := i) (by omega)
    have h5 := ih (i + 1) n (by omega) (by omega)
    push_cast at h5
    rw [all_drop l i h2]
    by_cases c1 : l[i] < 0
    · simp [impl_GridValid.l2, impl_GridValid.j3, impl_GridValid.j4, h1, h2, h3, c1, show ¬ 0 ≤ l[i] by omega]
    · by_cases c2 : l[i] > m
      · simp [impl_GridValid.l2, impl_GridValid.j3, impl_GridValid.j4, h1, h2, h3, c1, c2, show ¬ l[i] ≤ m by omega]
      · simp [impl_GridValid.l2, impl_GridValid.j3, impl_GridValid.j4, h1, h2, h3, c1, c2, h4, h5, show 0 ≤ l[i] by omega, show l[i] ≤ m by omega]

theorem implGridValid_ok {k : Nat} (hk : 2000000 ≤ k) {H : Hp} {s : Sl} {l : List Int} (hr : Reads .i64 H s l) (hl : l.length ≤ 1048576) (m : Int) :
    callF PP orc k impl_GridValid.id [.sl 1 s, .int .i64 m] H = some (.bool (gridOk l m), H) := by
  obtain ⟨k, rfl⟩ : ∃ m, k = m + 1 := ⟨k - 1, by omega⟩
  rw [impl_GridValid.call]
  have h1 := hr.len
  by_cases c : 2 ≤ m ∧ m ≤ 4
  · have h2 : IntKind.i64.wrap (m * m) = m * m := by
      have : m = 2 ∨ m = 3 ∨ m = 4 := by omega
      rcases this with rfl | rfl | rfl <;> exact wr (by decide) (by decide)
    have h3 := implGridValid_l2 (callF PP orc k) k (m := m) hr hl l.length 0 k (by omega) (by omega)
    by_cases c2 : (l.length : Int) = m * m
    · have : ((l.length : Int) != m * m) = false := by simp [c2]
      simp only [impl_GridValid.f, sizeOk_ok (show 1 ≤ k by omega), c, Option.bind_some, AV.toB, h1, h2, this, impl_GridValid.j0, impl_GridValid.j1]
      simpa [gridOk, c, c2] using h3
    · have : ((l.length : Int) != m * m) = true := by simp [c2]
      simp [impl_GridValid.f, sizeOk_ok (show 1 ≤ k by omega), c, AV.toB, h1, h2, this, impl_GridValid.j0, gridOk, c2]
  · simp [impl_GridValid.f, sizeOk_ok (show 1 ≤ k by omega), c, AV.toB, impl_GridValid.j0, gridOk]

theorem specGridValid_l0 {k : Nat} (hk : 1 ≤ k) {H : Hp} {s : Sl} {l : List Int} {m : Int} (hr : Reads .i64 H s l) (hl : l.length ≤ 1048576) :
    ∀ (j i n : Nat), i + j = l.length → j < n → spec_GridValid.l0 (callF PP orc k) k n s m i H = some (.bool (decide (2 ≤ m ∧ m ≤ 4) && decide ((l.length : Int) = m * m) && (l.drop i).all fun v => decide (0 ≤ v) && decide (v ≤ m)), H) := by
  intro j
  induction j with
  | zero =>
    intro i n hi hn
    obtain ⟨n, rfl⟩ : ∃ m, n = m + 1 := ⟨n - 1, by omega⟩
    have h1 := hr.len
    by_cases c : 2 ≤ m ∧ m ≤ 4
    · have h2 : IntKind.i64.wrap (m * m) = m * m := by
        have : m = 2 ∨ m = 3 ∨ m = 4 := by omega
        rcases this with rfl | rfl | rfl <;> exact wr (by decide) (by decide)
      simp only [spec_GridValid.l0, h1, show ¬ ((i : Int) < (l.length : Int)) by omega, decide_false, cond_false, spec_GridValid.j1, l1In_ok hk, Option.bind_some, AV.toB, c, and_self, decide_true, cond_true, h2, List.drop_eq_nil_of_le (show l.length ≤ i by omega), List.all_nil, Bool.and_true, Bool.true_and]
      by_cases c2 : (l.length : Int) = m * m <;> simp [c2]
    · simp [spec_GridValid.l0, h1, show ¬ i < l.length by omega, spec_GridValid.j1, l1In_ok hk, AV.toB, c]
  | succ j ih =>
    intro i n hi hn
    obtain ⟨n, rfl⟩ : ∃ m, n = m + 1 := ⟨n - 1, by omega⟩
    have h1 := hr.len
    have h2 : i < l.length := by omega
    have h3 := reads_at hr i h2
    have h4 := wrs (i := i) (by omega)
    have h5 := ih (i + 1) n (by omega) (by omega)
    push_cast at h5
    rw [all_drop l i h2]
    by_cases c1 : 0 ≤ l[i] ∧ l[i] ≤ m
    · simp [spec_GridValid.l0, h1, h2, h3, l1In_ok hk, AV.toB, c1, h4, h5]
    · have : (decide (0 ≤ l[i]) && decide (l[i] ≤ m)) = false := by
        cases d : (decide (0 ≤ l[i]) && decide (l[i] ≤ m)) with
        | false => rfl
        | true => exact absurd (by simpa using d) c1
      simp [spec_GridValid.l0, h1, h2, h3, l1In_ok hk, AV.toB, c1, this]

theorem specGridValid_ok {k : Nat} (hk : 2000000 ≤ k) {H : Hp} {s : Sl} {l : List Int} (hr : Reads .i64 H s l) (hl : l.length ≤ 1048576) (m : Int) :
    callF PP orc k spec_GridValid.id [.sl 1 s, .int .i64 m] H = some (.bool (gridOk l m), H) := by
  obtain ⟨k, rfl⟩ : ∃ m, k = m + 1 := ⟨k - 1, by omega⟩
  rw [spec_GridValid.call]
  have := specGridValid_l0 (k := k) (by omega) (m := m) hr hl l.length 0 k (by omega) (by omega)
  simpa [spec_GridValid.f, gridOk] using this

/-- The cells that are not empty. -/
def filled (l : List Int) : Nat := l.countP fun v => decide (v > 0)
theorem count_drop {p : Int → Bool} (l : List Int) (i : Nat) (h : i < l.length) : (l.drop i).countP p = (l.drop (i + 1)).countP p + (if p l[i] = true then 1 else 0) := by
  rw [List.drop_eq_getElem_cons h, List.countP_cons]

theorem implGridFilled_l0 (rec : Rec) (k : Nat) {H : Hp} {s : Sl} {l : List Int} (hr : Reads .i64 H s l) (hl : l.length ≤ 1048576) :
    ∀ (j i n c : Nat), i + j = l.length → j < n → c ≤ i → impl_GridFilled.l0 rec k n c s l.length i H = some (.int .i64 ((c + (l.drop i).countP fun v => decide (v > 0) : Nat) : Int), H) := by
  intro j
  induction j with
  | zero =>
    intro i n c hi hn hc
    obtain ⟨n, rfl⟩ : ∃ m, n = m + 1 := ⟨n - 1, by omega⟩
    simp [impl_GridFilled.l0, impl_GridFilled.j2, show ¬ i < l.length by omega, List.drop_eq_nil_of_le (show l.length ≤ i by omega)]
  | succ j ih =>
    intro i n c hi hn hc
    obtain ⟨n, rfl⟩ : ∃ m, n = m + 1 := ⟨n - 1, by omega⟩
    have h1 := hr.len
    have h2 : i < l.length := by omega
    have h3 := reads_at hr i h2
    have h4 := wrs (i := i) (by omega)
    have h6 := wrs (i := c) (by omega)
    rw [count_drop l i h2]
    by_cases c1 : l[i] > 0
    · have h5 := ih (i + 1) n (c + 1) (by omega) (by omega) (by omega)
      push_cast at h5
      simp [impl_GridFilled.l0, impl_GridFilled.j1, h1, h2, h3, c1, h4, h6, h5]
      omega
    · have h5 := ih (i + 1) n c (by omega) (by omega) (by omega)
      push_cast at h5
      simp [impl_GridFilled.l0, impl_GridFilled.j1, h1, h2, h3, c1, h4, h5]

theorem implGridFilled_ok {k : Nat} (hk : 2000001 ≤ k) {H : Hp} {s : Sl} {l : List Int} (hr : Reads .i64 H s l) (hl : l.length ≤ 1048576) (m : Int) :
    callF PP orc k impl_GridFilled.id [.sl 1 s, .int .i64 m] H = some (.int .i64 (if gridOk l m = true then (filled l : Int) else -1), H) := by
  obtain ⟨k, rfl⟩ : ∃ m, k = m + 1 := ⟨k - 1, by omega⟩
  rw [impl_GridFilled.call]
  have h1 := hr.len
  have := implGridFilled_l0 (callF PP orc k) k hr hl l.length 0 k 0 (by omega) (by omega) (by omega)
  simp at this
  by_cases c : gridOk l m = true
  · simpa [impl_GridFilled.f, implGridValid_ok (show 2000000 ≤ k by omega) hr hl, AV.toB, c, h1, filled] using this
  · simp [impl_GridFilled.f, implGridValid_ok (show 2000000 ≤ k by omega) hr hl, AV.toB, c]

theorem specGridFilled_l0 (rec : Rec) (k : Nat) {H : Hp} {s : Sl} {l : List Int} (hr : Reads .i64 H s l) (hl : l.length ≤ 1048576) :
    ∀ (j i n c : Nat), i + j = l.length → j < n → c ≤ i → spec_GridFilled.l0 rec k n s c i H = some (.int .i64 ((c + (l.drop i).countP fun v => decide (v > 0) : Nat) : Int), H) := by
  intro j
  induction j with
  | zero =>
    intro i n c hi hn hc
    obtain ⟨n, rfl⟩ : ∃ m, n = m + 1 := ⟨n - 1, by omega⟩
    simp [spec_GridFilled.l0, spec_GridFilled.j2, hr.len, show ¬ i < l.length by omega, List.drop_eq_nil_of_le (show l.length ≤ i by omega)]
  | succ j ih =>
    intro i n c hi hn hc
    obtain ⟨n, rfl⟩ : ∃ m, n = m + 1 := ⟨n - 1, by omega⟩
    have h1 := hr.len
    have h2 : i < l.length := by omega
    have h3 := reads_at hr i h2
    have h4 := wrs (i := i) (by omega)
    have h6 := wrs (i := c) (by omega)
    rw [count_drop l i h2]
    by_cases c1 : l[i] > 0
    · have h5 := ih (i + 1) n (c + 1) (by omega) (by omega) (by omega)
      push_cast at h5
      simp [spec_GridFilled.l0, spec_GridFilled.j1, h1, h2, h3, c1, h4, h6, h5]
      omega
    · have h5 := ih (i + 1) n c (by omega) (by omega) (by omega)
      push_cast at h5
      simp [spec_GridFilled.l0, spec_GridFilled.j1, h1, h2, h3, c1, h4, h5]

theorem specGridFilled_ok {k : Nat} (hk : 2000001 ≤ k) {H : Hp} {s : Sl} {l : List Int} (hr : Reads .i64 H s l) (hl : l.length ≤ 1048576) (m : Int) :
    callF PP orc k spec_GridFilled.id [.sl 1 s, .int .i64 m] H = some (.int .i64 (if gridOk l m = true then (filled l : Int) else -1), H) := by
  obtain ⟨k, rfl⟩ : ∃ m, k = m + 1 := ⟨k - 1, by omega⟩
  rw [spec_GridFilled.call]
  have h1 := hr.len
  have := specGridFilled_l0 (callF PP orc k) k hr hl l.length 0 k 0 (by omega) (by omega) (by omega)
  simp at this
  by_cases c : gridOk l m = true
  · simpa [spec_GridFilled.f, specGridValid_ok (show 2000000 ≤ k by omega) hr hl, AV.toB, c, h1, filled] using this
  · simp [spec_GridFilled.f, specGridValid_ok (show 2000000 ≤ k by omega) hr hl, AV.toB, c]
end Go.Proofs.Ytjojhbdghhmeeaa.Rp
/- Functions of the program as plain Lean functions. No conditions. -/
set_option linter.unusedVariables false
set_option linter.unusedSimpArgs false
set_option maxRecDepth 100000
namespace Go.Proofs.Ytjojhbdghhmeeaa.Rp
open Go Go.Proofs.Ytjojhbdghhmeeaa.Ab
noncomputable def spec_RuleValid.body : Code := (Go.Proofs.Try.f69).body.getD .skip
noncomputable def spec_RuleValid.j3 (rec : Rec) (k : Nat) (L0 : Int → Int → Int → Sl → Int → Hp → An) (x1 : Int) (x5 : Int) (y2_0 : Int) (y2_1 : Sl) (y2_2 : Int) (H : Hp) : An := L0 x1 (IntKind.i64.wrap (x5 + 1)) y2_0 y2_1 y2_2 H
noncomputable def spec_RuleValid.l1 (rec : Rec) (k : Nat) (L0 : Int → Int → Int → Sl → Int → Hp → An) : Nat → Int → Int → Int → Int → Sl → Int → Hp → An
  | 0, _, _, _, _, _, _, _ => none
  | n + 1, x1, x5, x6, y2_0, y2_1, y2_2, H => bif decide (x6 < x5) then bif decide (0 ≤ (x6 : Int)) && decide ((x6 : Int) < y2_1.len) then (ldI .i64 H y2_1.blk (y2_1.off + (x6 : Int).toNat * 1)).bind fun n4 => bif decide (0 ≤ (x5 : Int)) && decide ((x5 : Int) < y2_1.len) then (ldI .i64 H y2_1.blk (y2_1.off + (x5 : Int).toNat * 1)).bind fun n5 => bif n4 == n5 then some (.bool false, H) else (spec_RuleValid.l1 rec k L0 n) x1 x5 (IntKind.i64.wrap (x6 + 1)) y2_0 y2_1 y2_2 H else none else none else spec_RuleValid.j3 rec k L0 x1 x5 y2_0 y2_1 y2_2 H
noncomputable def spec_RuleValid.j6 (rec : Rec) (k : Nat) (x1 : Int) (x7 : Int) (x53 : Int) (x63 : Bool) (y2_0 : Int) (y2_1 : Sl) (y2_2 : Int) (H : Hp) : An := bif x63 then bif decide (x7 ≥ 1) then (rec spec_l1In.id [.int .i64 y2_2, .int .i64 1, .int .i64 (IntKind.i64.wrap ((IntKind.i64.wrap ((IntKind.i64.wrap (x1 * x1)) * x1)) * x1))] H).bind fun r8 => r8.1.toB.bind fun b9 => some (.bool b9, r8.2) else some (.bool false, H) else bif x53 == 4 then bif x7 == 2 then some (.bool (y2_2 == 0), H) else some (.bool false, H) else bif x53 == 5 then bif x7 == 2 then (rec spec_l1In.id [.int .i64 y2_2, .int .i64 0, .int .i64 (IntKind.i64.wrap (x1 - 1))] H).bind fun r10 => r10.1.toB.bind fun b11 => some (.bool b11, r10.2) else some (.bool false, H) else some (.bool false, H)
noncomputable def spec_RuleValid.j5 (rec : Rec) (k : Nat) (x1 : Int) (x7 : Int) (y2_0 : Int) (y2_1 : Sl) (y2_2 : Int) (H : Hp) : An := bif y2_0 == 1 then bif decide (x7 ≥ 2) then some (.bool (y2_2 == 0), H) else some (.bool false, H) else bif y2_0 == 2 then spec_RuleValid.j6 rec k x1 x7 y2_0 (y2_0 == 2) y2_0 y2_1 y2_2 H else spec_RuleValid.j6 rec k x1 x7 y2_0 (y2_0 == 3) y2_0 y2_1 y2_2 H
noncomputable def spec_RuleValid.j4 (rec : Rec) (k : Nat) (x1 : Int) (x7 : Int) (x51 : Bool) (y2_0 : Int) (y2_1 : Sl) (y2_2 : Int) (H : Hp) : An := bif x51 then some (.bool false, H) else spec_RuleValid.j5 rec k x1 x7 y2_0 y2_1 y2_2 H
noncomputable def spec_RuleValid.j2 (rec : Rec) (k : Nat) (x1 : Int) (y2_0 : Int) (y2_1 : Sl) (y2_2 : Int) (H : Hp) : An := (rec spec_l1In.id [.int .i64 x1, .int .i64 2, .int .i64 4] H).bind fun r6 => r6.1.toB.bind fun b7 => bif !b7 then spec_RuleValid.j4 rec k x1 (y2_1.len : Int) true y2_0 y2_1 y2_2 r6.2 else spec_RuleValid.j4 rec k x1 (y2_1.len : Int) (decide ((y2_1.len : Int) > 4)) y2_0 y2_1 y2_2 r6.2
noncomputable def spec_RuleValid.l0 (rec : Rec) (k : Nat) : Nat → Int → Int → Int → Sl → Int → Hp → An
  | 0, _, _, _, _, _, _ => none
  | n + 1, x1, x5, y2_0, y2_1, y2_2, H => bif decide (x5 < (y2_1.len : Int)) then bif decide (0 ≤ (x5 : Int)) && decide ((x5 : Int) < y2_1.len) then (ldI .i64 H y2_1.blk (y2_1.off + (x5 : Int).toNat * 1)).bind fun n1 => (rec spec_l1In.id [.int .i64 n1, .int .i64 0, .int .i64 (IntKind.i64.wrap ((IntKind.i64.wrap (x1 * x1)) - 1))] H).bind fun r2 => r2.1.toB.bind fun b3 => bif !b3 then some (.bool false, r2.2) else spec_RuleValid.l1 rec k (spec_RuleValid.l0 rec k n) k x1 x5 0 y2_0 y2_1 y2_2 r2.2 else none else spec_RuleValid.j2 rec k x1 y2_0 y2_1 y2_2 H
noncomputable def spec_RuleValid.f (rec : Rec) (k : Nat) (a0_0 : Int) (a0_1 : Sl) (a0_2 : Int) (a1 : Int) (H : Hp) : An := spec_RuleValid.l0 rec k k a1 0 a0_0 a0_1 a0_2 H
theorem spec_RuleValid.j3_eq (rec : Rec) (k : Nat) (n0 : Nat) (L0 : Int → Int → Int → Sl → Int → Hp → An) (hL0 : ∀ x1 x5 y2_0 y2_1 y2_2 H, L0 x1 x5 y2_0 y2_1 y2_2 H = iter ((orc spec_RuleValid.id).at (lbody (sub spec_RuleValid.body [1, 0, 1, 0]))) (ex PP (orc spec_RuleValid.id) rec k (lbody (sub spec_RuleValid.body [1, 0, 1, 0]))) (kAt PP (orc spec_RuleValid.id) rec k spec_RuleValid.body [1, 0, 1, 0] [] (K0 PP Go.Proofs.Try.f69)) n0 (St.of 100 [(1, .int .i64 x1), (2, .lp 2 0), (5, .int .i64 x5)] [(2, [.int .i64 y2_0, .sl 1 y2_1, .int .i64 y2_2])]) H) : ∀ x1 x5 y2_0 y2_1 y2_2 H, spec_RuleValid.j3 rec k L0 x1 x5 y2_0 y2_1 y2_2 H = ex PP (orc spec_RuleValid.id) rec k (sub spec_RuleValid.body [1, 0, 1, 0, 0, 1, 1]) (St.of 100 [(1, .int .i64 x1), (2, .lp 2 0), (5, .int .i64 x5)] [(2, [.int .i64 y2_0, .sl 1 y2_1, .int .i64 y2_2])]) H (kAt PP (orc spec_RuleValid.id) rec k spec_RuleValid.body [1, 0, 1, 0, 0, 1, 1] [n0] (K0 PP Go.Proofs.Try.f69)) := by
  intros x1 x5 y2_0 y2_1 y2_2 H
  unfold spec_RuleValid.j3
  try simp only [hL0, -eq_self]
  kernel_rfl
theorem spec_RuleValid.l1_eq (rec : Rec) (k : Nat) (n0 : Nat) (L0 : Int → Int → Int → Sl → Int → Hp → An) (hL0 : ∀ x1 x5 y2_0 y2_1 y2_2 H, L0 x1 x5 y2_0 y2_1 y2_2 H = iter ((orc spec_RuleValid.id).at (lbody (sub spec_RuleValid.body [1, 0, 1, 0]))) (ex PP (orc spec_RuleValid.id) rec k (lbody (sub spec_RuleValid.body [1, 0, 1, 0]))) (kAt PP (orc spec_RuleValid.id) rec k spec_RuleValid.body [1, 0, 1, 0] [] (K0 PP Go.Proofs.Try.f69)) n0 (St.of 100 [(1, .int .i64 x1), (2, .lp 2 0), (5, .int .i64 x5)] [(2, [.int .i64 y2_0, .sl 1 y2_1, .int .i64 y2_2])]) H) : ∀ n x1 x5 x6 y2_0 y2_1 y2_2 H, spec_RuleValid.l1 rec k L0 n x1 x5 x6 y2_0 y2_1 y2_2 H = iter ((orc spec_RuleValid.id).at (lbody (sub spec_RuleValid.body [1, 0, 1, 0, 0, 1, 0, 0, 1, 1, 0]))) (ex PP (orc spec_RuleValid.id) rec k (lbody (sub spec_RuleValid.body [1, 0, 1, 0, 0, 1, 0, 0, 1, 1, 0]))) (kAt PP (orc spec_RuleValid.id) rec k spec_RuleValid.body [1, 0, 1, 0, 0, 1, 0, 0, 1, 1, 0] [n0] (K0 PP Go.Proofs.Try.f69)) n (St.of 100 [(1, .int .i64 x1), (2, .lp 2 0), (5, .int .i64 x5), (6, .int .i64 x6)] [(2, [.int .i64 y2_0, .sl 1 y2_1, .int .i64 y2_2])]) H := by
  intro n
  induction n with
  | zero => intros; rfl
  | succ n ih =>
    intros x1 x5 x6 y2_0 y2_1 y2_2 H
    simp only [spec_RuleValid.l1, hL0, spec_RuleValid.j3_eq rec k n0 L0 hL0, ih, -eq_self]
    kernel_rfl
theorem spec_RuleValid.j6_eq (rec : Rec) (k : Nat) : ∀ x1 x7 x53 x63 y2_0 y2_1 y2_2 H, spec_RuleValid.j6 rec k x1 x7 x53 x63 y2_0 y2_1 y2_2 H = ex PP (orc spec_RuleValid.id) rec k (sub spec_RuleValid.body [1, 1, 1, 1, 0, 1, 0, 1, 1, 1]) (St.of 100 [(1, .int .i64 x1), (2, .lp 2 0), (7, .int .i64 x7), (53, .int .i64 x53), (63, .bool x63)] [(2, [.int .i64 y2_0, .sl 1 y2_1, .int .i64 y2_2])]) H (kAt PP (orc spec_RuleValid.id) rec k spec_RuleValid.body [1, 1, 1, 1, 0, 1, 0, 1, 1, 1] [] (K0 PP Go.Proofs.Try.f69)) := by
  intros x1 x7 x53 x63 y2_0 y2_1 y2_2 H
  unfold spec_RuleValid.j6
  kernel_rfl
theorem spec_RuleValid.j5_eq (rec : Rec) (k : Nat) : ∀ x1 x7 y2_0 y2_1 y2_2 H, spec_RuleValid.j5 rec k x1 x7 y2_0 y2_1 y2_2 H = ex PP (orc spec_RuleValid.id) rec k (sub spec_RuleValid.body [1, 1, 1, 1]) (St.of 100 [(1, .int .i64 x1), (2, .lp 2 0), (7, .int .i64 x7)] [(2, [.int .i64 y2_0, .sl 1 y2_1, .int .i64 y2_2])]) H (kAt PP (orc spec_RuleValid.id) rec k spec_RuleValid.body [1, 1, 1, 1] [] (K0 PP Go.Proofs.Try.f69)) := by
  intros x1 x7 y2_0 y2_1 y2_2 H
  unfold spec_RuleValid.j5
  try simp only [spec_RuleValid.j6_eq rec k, -eq_self]
  kernel_rfl
theorem spec_RuleValid.j4_eq (rec : Rec) (k : Nat) : ∀ x1 x7 x51 y2_0 y2_1 y2_2 H, spec_RuleValid.j4 rec k x1 x7 x51 y2_0 y2_1 y2_2 H = ex PP (orc spec_RuleValid.id) rec k (sub spec_RuleValid.body [1, 1, 1, 0, 1]) (St.of 100 [(1, .int .i64 x1), (2, .lp 2 0), (7, .int .i64 x7), (51, .bool x51)] [(2, [.int .i64 y2_0, .sl 1 y2_1, .int .i64 y2_2])]) H (kAt PP (orc spec_RuleValid.id) rec k spec_RuleValid.body [1, 1, 1, 0, 1] [] (K0 PP Go.Proofs.Try.f69)) := by
  intros x1 x7 x51 y2_0 y2_1 y2_2 H
  unfold spec_RuleValid.j4
  try simp only [spec_RuleValid.j5_eq rec k, -eq_self]
  kernel_rfl
theorem spec_RuleValid.j2_eq (rec : Rec) (k : Nat) : ∀ x1 y2_0 y2_1 y2_2 H, spec_RuleValid.j2 rec k x1 y2_0 y2_1 y2_2 H = ex PP (orc spec_RuleValid.id) rec k (sub spec_RuleValid.body [1, 1]) (St.of 100 [(1, .int .i64 x1), (2, .lp 2 0)] [(2, [.int .i64 y2_0, .sl 1 y2_1, .int .i64 y2_2])]) H (kAt PP (orc spec_RuleValid.id) rec k spec_RuleValid.body [1, 1] [] (K0 PP Go.Proofs.Try.f69)) := by
  intros x1 y2_0 y2_1 y2_2 H
  simp only [spec_RuleValid.j2, spec_RuleValid.j4, spec_RuleValid.j5, spec_RuleValid.j6, -eq_self]
  kernel_rfl
theorem spec_RuleValid.l0_eq (rec : Rec) (k : Nat) : ∀ n x1 x5 y2_0 y2_1 y2_2 H, spec_RuleValid.l0 rec k n x1 x5 y2_0 y2_1 y2_2 H = iter ((orc spec_RuleValid.id).at (lbody (sub spec_RuleValid.body [1, 0, 1, 0]))) (ex PP (orc spec_RuleValid.id) rec k (lbody (sub spec_RuleValid.body [1, 0, 1, 0]))) (kAt PP (orc spec_RuleValid.id) rec k spec_RuleValid.body [1, 0, 1, 0] [] (K0 PP Go.Proofs.Try.f69)) n (St.of 100 [(1, .int .i64 x1), (2, .lp 2 0), (5, .int .i64 x5)] [(2, [.int .i64 y2_0, .sl 1 y2_1, .int .i64 y2_2])]) H := by
  intro n
  induction n with
  | zero => intros; rfl
  | succ n ih =>
    intros x1 x5 y2_0 y2_1 y2_2 H
    simp only [spec_RuleValid.l0, spec_RuleValid.l1_eq rec k n (spec_RuleValid.l0 rec k n) (fun x1 x5 y2_0 y2_1 y2_2 H => ih x1 x5 y2_0 y2_1 y2_2 H), spec_RuleValid.j2_eq rec k, ih, -eq_self]
    kernel_rfl
theorem spec_RuleValid.f_eq (rec : Rec) (k : Nat) : ∀ a0_0 a0_1 a0_2 a1 H, spec_RuleValid.f rec k a0_0 a0_1 a0_2 a1 H = ex PP (orc spec_RuleValid.id) rec k spec_RuleValid.body (St.of 100 [(0, .agg [.int .i64 a0_0, .sl 1 a0_1, .int .i64 a0_2]), (1, .int .i64 a1)] []) H (K0 PP Go.Proofs.Try.f69) := by
  intros a0_0 a0_1 a0_2 a1 H
  unfold spec_RuleValid.f
  try simp only [spec_RuleValid.l0_eq rec k, -eq_self]
  kernel_rfl
theorem spec_RuleValid.call (k : Nat) : ∀ a0_0 a0_1 a0_2 a1 H, callF PP orc (k + 1) spec_RuleValid.id [.agg [.int .i64 a0_0, .sl 1 a0_1, .int .i64 a0_2], .int .i64 a1] H = spec_RuleValid.f (callF PP orc k) k a0_0 a0_1 a0_2 a1 H := by
  intros a0_0 a0_1 a0_2 a1 H
  rw [callF_at (fn := Go.Proofs.Try.f69) (c := spec_RuleValid.body) Go.Proofs.Try.func69 (by kernel_rfl) (Nat.le_of_ble_eq_true (by kernel_rfl)), spec_RuleValid.f_eq]
  kernel_rfl
noncomputable def impl_RuleValid.body : Code := (Go.Proofs.Try.f81).body.getD .skip
noncomputable def impl_RuleValid.j3 (rec : Rec) (k : Nat) (L0 : Int → Sl → Int → Int → Int → Sl → Int → Hp → An) (x1 : Int) (x12 : Sl) (x13 : Int) (x14 : Int) (y2_0 : Int) (y2_1 : Sl) (y2_2 : Int) (H : Hp) : An := L0 x1 x12 x13 (IntKind.i64.wrap (x14 + 1)) y2_0 y2_1 y2_2 H
noncomputable def impl_RuleValid.j1 (rec : Rec) (k : Nat) (L0 : Int → Sl → Int → Int → Int → Sl → Int → Hp → An) (x1 : Int) (x12 : Sl) (x13 : Int) (x14 : Int) (x35 : Bool) (y2_0 : Int) (y2_1 : Sl) (y2_2 : Int) (H : Hp) : An := bif x35 then some (.bool false, H) else impl_RuleValid.j3 rec k L0 x1 x12 x13 x14 y2_0 y2_1 y2_2 H
noncomputable def impl_RuleValid.j4 (rec : Rec) (k : Nat) (x1 : Int) (x7 : Int) (x41 : Int) (x55 : Bool) (y2_0 : Int) (y2_1 : Sl) (y2_2 : Int) (H : Hp) : An := bif x55 then bif decide (x7 ≥ 1) then bif decide (x7 ≤ 4) then bif decide (y2_2 ≥ 1) then some (.bool (decide (y2_2 ≤ (IntKind.i64.wrap ((IntKind.i64.wrap ((IntKind.i64.wrap (x1 * x1)) * x1)) * x1)))), H) else some (.bool false, H) else some (.bool false, H) else some (.bool false, H) else bif x41 == 4 then bif x7 == 2 then some (.bool (y2_2 == 0), H) else some (.bool false, H) else bif x41 == 5 then bif x7 == 2 then bif decide (y2_2 ≥ 0) then some (.bool (decide (y2_2 < x1)), H) else some (.bool false, H) else some (.bool false, H) else some (.bool false, H)
noncomputable def impl_RuleValid.j2 (rec : Rec) (k : Nat) (x1 : Int) (y2_0 : Int) (y2_1 : Sl) (y2_2 : Int) (H : Hp) : An := bif y2_0 == 1 then bif decide ((y2_1.len : Int) ≥ 2) then bif decide ((y2_1.len : Int) ≤ 4) then some (.bool (y2_2 == 0), H) else some (.bool false, H) else some (.bool false, H) else bif y2_0 == 2 then impl_RuleValid.j4 rec k x1 (y2_1.len : Int) y2_0 (y2_0 == 2) y2_0 y2_1 y2_2 H else impl_RuleValid.j4 rec k x1 (y2_1.len : Int) y2_0 (y2_0 == 3) y2_0 y2_1 y2_2 H
noncomputable def impl_RuleValid.l0 (rec : Rec) (k : Nat) : Nat → Int → Sl → Int → Int → Int → Sl → Int → Hp → An
  | 0, _, _, _, _, _, _, _, _ => none
  | n + 1, x1, x12, x13, x14, y2_0, y2_1, y2_2, H => bif decide (x14 < x13) then bif decide (0 ≤ (x14 : Int)) && decide ((x14 : Int) < x12.len) then (ldI .i64 H x12.blk (x12.off + (x14 : Int).toNat * 1)).bind fun n3 => bif decide (n3 < 0) then impl_RuleValid.j1 rec k (impl_RuleValid.l0 rec k n) x1 x12 x13 x14 true y2_0 y2_1 y2_2 H else bif decide (n3 ≥ (IntKind.i64.wrap (x1 * x1))) then impl_RuleValid.j1 rec k (impl_RuleValid.l0 rec k n) x1 x12 x13 x14 true y2_0 y2_1 y2_2 H else if (0 ≤ (0 : Int) ∧ (0 : Int) ≤ x14 ∧ (x14 : Int) ≤ y2_1.len ∧ (x14 : Int) = x14) ∧ 0 < 1 ∧ true = true then (rec slices_Contains_int.id [.sl 1 (Sl.mk y2_1.nil y2_1.blk (y2_1.off + (0 : Int).toNat * 1) ((x14 : Int) - 0).toNat), .int .i64 n3] H).bind fun r4 => r4.1.toB.bind fun b5 => impl_RuleValid.j1 rec k (impl_RuleValid.l0 rec k n) x1 x12 x13 x14 b5 y2_0 y2_1 y2_2 r4.2 else none else none else impl_RuleValid.j2 rec k x1 y2_0 y2_1 y2_2 H
noncomputable def impl_RuleValid.f (rec : Rec) (k : Nat) (a0_0 : Int) (a0_1 : Sl) (a0_2 : Int) (a1 : Int) (H : Hp) : An := (rec impl_sizeOk.id [.int .i64 a1] H).bind fun r1 => r1.1.toB.bind fun b2 => bif !b2 then some (.bool false, r1.2) else impl_RuleValid.l0 rec k k a1 a0_1 (a0_1.len : Int) 0 a0_0 a0_1 a0_2 r1.2
theorem impl_RuleValid.j3_eq (rec : Rec) (k : Nat) (n0 : Nat) (L0 : Int → Sl → Int → Int → Int → Sl → Int → Hp → An) (hL0 : ∀ x1 x12 x13 x14 y2_0 y2_1 y2_2 H, L0 x1 x12 x13 x14 y2_0 y2_1 y2_2 H = iter ((orc impl_RuleValid.id).at (lbody (sub impl_RuleValid.body [1, 1, 0, 1, 0]))) (ex PP (orc impl_RuleValid.id) rec k (lbody (sub impl_RuleValid.body [1, 1, 0, 1, 0]))) (kAt PP (orc impl_RuleValid.id) rec k impl_RuleValid.body [1, 1, 0, 1, 0] [] (K0 PP Go.Proofs.Try.f81)) n0 (St.of 105 [(1, .int .i64 x1), (2, .lp 2 0), (12, .sl 1 x12), (13, .int .i64 x13), (14, .int .i64 x14)] [(2, [.int .i64 y2_0, .sl 1 y2_1, .int .i64 y2_2])]) H) : ∀ x1 x12 x13 x14 y2_0 y2_1 y2_2 H, impl_RuleValid.j3 rec k L0 x1 x12 x13 x14 y2_0 y2_1 y2_2 H = ex PP (orc impl_RuleValid.id) rec k (sub impl_RuleValid.body [1, 1, 0, 1, 0, 0, 1, 1, 1]) (St.of 105 [(1, .int .i64 x1), (2, .lp 2 0), (12, .sl 1 x12), (13, .int .i64 x13), (14, .int .i64 x14)] [(2, [.int .i64 y2_0, .sl 1 y2_1, .int .i64 y2_2])]) H (kAt PP (orc impl_RuleValid.id) rec k impl_RuleValid.body [1, 1, 0, 1, 0, 0, 1, 1, 1] [n0] (K0 PP Go.Proofs.Try.f81)) := by
  intros x1 x12 x13 x14 y2_0 y2_1 y2_2 H
  unfold impl_RuleValid.j3
  try simp only [hL0, -eq_self]
  kernel_rfl
theorem impl_RuleValid.j1_eq (rec : Rec) (k : Nat) (n0 : Nat) (L0 : Int → Sl → Int → Int → Int → Sl → Int → Hp → An) (hL0 : ∀ x1 x12 x13 x14 y2_0 y2_1 y2_2 H, L0 x1 x12 x13 x14 y2_0 y2_1 y2_2 H = iter ((orc impl_RuleValid.id).at (lbody (sub impl_RuleValid.body [1, 1, 0, 1, 0]))) (ex PP (orc impl_RuleValid.id) rec k (lbody (sub impl_RuleValid.body [1, 1, 0, 1, 0]))) (kAt PP (orc impl_RuleValid.id) rec k impl_RuleValid.body [1, 1, 0, 1, 0] [] (K0 PP Go.Proofs.Try.f81)) n0 (St.of 105 [(1, .int .i64 x1), (2, .lp 2 0), (12, .sl 1 x12), (13, .int .i64 x13), (14, .int .i64 x14)] [(2, [.int .i64 y2_0, .sl 1 y2_1, .int .i64 y2_2])]) H) : ∀ x1 x12 x13 x14 x35 y2_0 y2_1 y2_2 H, impl_RuleValid.j1 rec k L0 x1 x12 x13 x14 x35 y2_0 y2_1 y2_2 H = ex PP (orc impl_RuleValid.id) rec k (sub impl_RuleValid.body [1, 1, 0, 1, 0, 0, 1, 1, 0, 0, 1, 1]) (St.of 105 [(1, .int .i64 x1), (2, .lp 2 0), (12, .sl 1 x12), (13, .int .i64 x13), (14, .int .i64 x14), (35, .bool x35)] [(2, [.int .i64 y2_0, .sl 1 y2_1, .int .i64 y2_2])]) H (kAt PP (orc impl_RuleValid.id) rec k impl_RuleValid.body [1, 1, 0, 1, 0, 0, 1, 1, 0, 0, 1, 1] [n0] (K0 PP Go.Proofs.Try.f81)) := by
  intros x1 x12 x13 x14 x35 y2_0 y2_1 y2_2 H
  unfold impl_RuleValid.j1
  try simp only [hL0, impl_RuleValid.j3_eq rec k n0 L0 hL0, -eq_self]
  kernel_rfl
theorem impl_RuleValid.j4_eq (rec : Rec) (k : Nat) : ∀ x1 x7 x41 x55 y2_0 y2_1 y2_2 H, impl_RuleValid.j4 rec k x1 x7 x41 x55 y2_0 y2_1 y2_2 H = ex PP (orc impl_RuleValid.id) rec k (sub impl_RuleValid.body [1, 1, 1, 1, 0, 1, 0, 1, 1, 1]) (St.of 105 [(1, .int .i64 x1), (2, .lp 2 0), (7, .int .i64 x7), (41, .int .i64 x41), (55, .bool x55)] [(2, [.int .i64 y2_0, .sl 1 y2_1, .int .i64 y2_2])]) H (kAt PP (orc impl_RuleValid.id) rec k impl_RuleValid.body [1, 1, 1, 1, 0, 1, 0, 1, 1, 1] [] (K0 PP Go.Proofs.Try.f81)) := by
  intros x1 x7 x41 x55 y2_0 y2_1 y2_2 H
  unfold impl_RuleValid.j4
  kernel_rfl
theorem impl_RuleValid.j2_eq (rec : Rec) (k : Nat) : ∀ x1 y2_0 y2_1 y2_2 H, impl_RuleValid.j2 rec k x1 y2_0 y2_1 y2_2 H = ex PP (orc impl_RuleValid.id) rec k (sub impl_RuleValid.body [1, 1, 1]) (St.of 105 [(1, .int .i64 x1), (2, .lp 2 0)] [(2, [.int .i64 y2_0, .sl 1 y2_1, .int .i64 y2_2])]) H (kAt PP (orc impl_RuleValid.id) rec k impl_RuleValid.body [1, 1, 1] [] (K0 PP Go.Proofs.Try.f81)) := by
  intros x1 y2_0 y2_1 y2_2 H
  unfold impl_RuleValid.j2
  try simp only [impl_RuleValid.j4_eq rec k, -eq_self]
  kernel_rfl
theorem impl_RuleValid.l0_eq (rec : Rec) (k : Nat) : ∀ n x1 x12 x13 x14 y2_0 y2_1 y2_2 H, impl_RuleValid.l0 rec k n x1 x12 x13 x14 y2_0 y2_1 y2_2 H = iter ((orc impl_RuleValid.id).at (lbody (sub impl_RuleValid.body [1, 1, 0, 1, 0]))) (ex PP (orc impl_RuleValid.id) rec k (lbody (sub impl_RuleValid.body [1, 1, 0, 1, 0]))) (kAt PP (orc impl_RuleValid.id) rec k impl_RuleValid.body [1, 1, 0, 1, 0] [] (K0 PP Go.Proofs.Try.f81)) n (St.of 105 [(1, .int .i64 x1), (2, .lp 2 0), (12, .sl 1 x12), (13, .int .i64 x13), (14, .int .i64 x14)] [(2, [.int .i64 y2_0, .sl 1 y2_1, .int .i64 y2_2])]) H := by
  intro n
  induction n with
  | zero => intros; rfl
  | succ n ih =>
    intros x1 x12 x13 x14 y2_0 y2_1 y2_2 H
    simp only [impl_RuleValid.l0, impl_RuleValid.j1_eq rec k n (impl_RuleValid.l0 rec k n) (fun x1 x12 x13 x14 y2_0 y2_1 y2_2 H => ih x1 x12 x13 x14 y2_0 y2_1 y2_2 H), impl_RuleValid.j2_eq rec k, ih, -eq_self]
    kernel_rfl
theorem impl_RuleValid.f_eq (rec : Rec) (k : Nat) : ∀ a0_0 a0_1 a0_2 a1 H, impl_RuleValid.f rec k a0_0 a0_1 a0_2 a1 H = ex PP (orc impl_RuleValid.id) rec k impl_RuleValid.body (St.of 105 [(0, .agg [.int .i64 a0_0, .sl 1 a0_1, .int .i64 a0_2]), (1, .int .i64 a1)] []) H (K0 PP Go.Proofs.Try.f81) := by
  intros a0_0 a0_1 a0_2 a1 H
  unfold impl_RuleValid.f
  try simp only [impl_RuleValid.l0_eq rec k, -eq_self]
  kernel_rfl
theorem impl_RuleValid.call (k : Nat) : ∀ a0_0 a0_1 a0_2 a1 H, callF PP orc (k + 1) impl_RuleValid.id [.agg [.int .i64 a0_0, .sl 1 a0_1, .int .i64 a0_2], .int .i64 a1] H = impl_RuleValid.f (callF PP orc k) k a0_0 a0_1 a0_2 a1 H := by
  intros a0_0 a0_1 a0_2 a1 H
  rw [callF_at (fn := Go.Proofs.Try.f81) (c := impl_RuleValid.body) Go.Proofs.Try.func81 (by kernel_rfl) (Nat.le_of_ble_eq_true (by kernel_rfl)), impl_RuleValid.f_eq]
  kernel_rfl
noncomputable def slices_Contains_int.body : Code := (Go.Proofs.Try.f114).body.getD .skip
noncomputable def slices_Contains_int.f (rec : Rec) (k : Nat) (a0 : Sl) (a1 : Int) (H : Hp) : An := (rec slices_Index_int.id [.sl 1 a0, .int .i64 a1] H).bind fun r1 => (r1.1.toI .i64).bind fun n2 => some (.bool (decide (n2 ≥ 0)), r1.2)
theorem slices_Contains_int.f_eq (rec : Rec) (k : Nat) : ∀ a0 a1 H, slices_Contains_int.f rec k a0 a1 H = ex PP (orc slices_Contains_int.id) rec k slices_Contains_int.body (St.of 9 [(0, .sl 1 a0), (1, .int .i64 a1)] []) H (K0 PP Go.Proofs.Try.f114) := by
  intros a0 a1 H
  unfold slices_Contains_int.f
  kernel_rfl
theorem slices_Contains_int.call (k : Nat) : ∀ a0 a1 H, callF PP orc (k + 1) slices_Contains_int.id [.sl 1 a0, .int .i64 a1] H = slices_Contains_int.f (callF PP orc k) k a0 a1 H := by
  intros a0 a1 H
  rw [callF_at (fn := Go.Proofs.Try.f114) (c := slices_Contains_int.body) Go.Proofs.Try.func114 (by kernel_rfl) (Nat.le_of_ble_eq_true (by kernel_rfl)), slices_Contains_int.f_eq]
  kernel_rfl
noncomputable def slices_Index_int.body : Code := (Go.Proofs.Try.f132).body.getD .skip
noncomputable def slices_Index_int.l0 (rec : Rec) (k : Nat) : Nat → Sl → Int → Int → Int → Hp → An
  | 0, _, _, _, _, _ => none
  | n + 1, x0, x1, x7, x8, H => bif decide (x8 < x7) then bif decide (0 ≤ (x8 : Int)) && decide ((x8 : Int) < x0.len) then (ldI .i64 H x0.blk (x0.off + (x8 : Int).toNat * 1)).bind fun n1 => bif x1 == n1 then some (.int .i64 x8, H) else (slices_Index_int.l0 rec k n) x0 x1 x7 (IntKind.i64.wrap (x8 + 1)) H else none else some (.int .i64 (-1), H)
noncomputable def slices_Index_int.f (rec : Rec) (k : Nat) (a0 : Sl) (a1 : Int) (H : Hp) : An := slices_Index_int.l0 rec k k a0 a1 (a0.len : Int) 0 H
theorem slices_Index_int.l0_eq (rec : Rec) (k : Nat) : ∀ n x0 x1 x7 x8 H, slices_Index_int.l0 rec k n x0 x1 x7 x8 H = iter ((orc slices_Index_int.id).at (lbody (sub slices_Index_int.body [1, 0, 1, 0]))) (ex PP (orc slices_Index_int.id) rec k (lbody (sub slices_Index_int.body [1, 0, 1, 0]))) (kAt PP (orc slices_Index_int.id) rec k slices_Index_int.body [1, 0, 1, 0] [] (K0 PP Go.Proofs.Try.f132)) n (St.of 19 [(0, .sl 1 x0), (1, .int .i64 x1), (7, .int .i64 x7), (8, .int .i64 x8)] []) H := by
  intro n
  induction n with
  | zero => intros; rfl
  | succ n ih =>
    intros x0 x1 x7 x8 H
    simp only [slices_Index_int.l0, ih, -eq_self]
    kernel_rfl
theorem slices_Index_int.f_eq (rec : Rec) (k : Nat) : ∀ a0 a1 H, slices_Index_int.f rec k a0 a1 H = ex PP (orc slices_Index_int.id) rec k slices_Index_int.body (St.of 19 [(0, .sl 1 a0), (1, .int .i64 a1)] []) H (K0 PP Go.Proofs.Try.f132) := by
  intros a0 a1 H
  unfold slices_Index_int.f
  try simp only [slices_Index_int.l0_eq rec k, -eq_self]
  kernel_rfl
theorem slices_Index_int.call (k : Nat) : ∀ a0 a1 H, callF PP orc (k + 1) slices_Index_int.id [.sl 1 a0, .int .i64 a1] H = slices_Index_int.f (callF PP orc k) k a0 a1 H := by
  intros a0 a1 H
  rw [callF_at (fn := Go.Proofs.Try.f132) (c := slices_Index_int.body) Go.Proofs.Try.func132 (by kernel_rfl) (Nat.le_of_ble_eq_true (by kernel_rfl)), slices_Index_int.f_eq]
  kernel_rfl
noncomputable def spec_PuzzleValid.body : Code := (Go.Proofs.Try.f20).body.getD .skip
noncomputable def spec_PuzzleValid.j1 (rec : Rec) (k : Nat) (y1_0 : Int) (y1_1 : Sl) (y1_2 : Sl) (H : Hp) : An := (rec spec_GridValid.id [.sl 1 y1_1, .int .i64 y1_0] H).bind fun r6 => r6.1.toB.bind fun b7 => bif b7 then some (.bool (decide ((y1_2.len : Int) ≤ 20)), r6.2) else some (.bool false, r6.2)
noncomputable def spec_PuzzleValid.l0 (rec : Rec) (k : Nat) : Nat → Int → Int → Sl → Sl → Hp → An
  | 0, _, _, _, _, _ => none
  | n + 1, x3, y1_0, y1_1, y1_2, H => bif decide (x3 < (y1_2.len : Int)) then bif decide (0 ≤ (x3 : Int)) && decide ((x3 : Int) < y1_2.len) then (ldI .i64 H y1_2.blk (y1_2.off + (x3 : Int).toNat * 3)).bind fun n1 => (ldS 1 H y1_2.blk (y1_2.off + (x3 : Int).toNat * 3 + 1)).bind fun s2 => (ldI .i64 H y1_2.blk (y1_2.off + (x3 : Int).toNat * 3 + 1 + 1)).bind fun n3 => (rec spec_RuleValid.id [.agg [.int .i64 n1, .sl 1 s2, .int .i64 n3], .int .i64 y1_0] H).bind fun r4 => r4.1.toB.bind fun b5 => bif !b5 then some (.bool false, r4.2) else (spec_PuzzleValid.l0 rec k n) (IntKind.i64.wrap (x3 + 1)) y1_0 y1_1 y1_2 r4.2 else none else spec_PuzzleValid.j1 rec k y1_0 y1_1 y1_2 H
noncomputable def spec_PuzzleValid.f (rec : Rec) (k : Nat) (a0_0 : Int) (a0_1 : Sl) (a0_2 : Sl) (H : Hp) : An := spec_PuzzleValid.l0 rec k k 0 a0_0 a0_1 a0_2 H
theorem spec_PuzzleValid.j1_eq (rec : Rec) (k : Nat) : ∀ y1_0 y1_1 y1_2 H, spec_PuzzleValid.j1 rec k y1_0 y1_1 y1_2 H = ex PP (orc spec_PuzzleValid.id) rec k (sub spec_PuzzleValid.body [1, 1]) (St.of 31 [(1, .lp 1 0)] [(1, [.int .i64 y1_0, .sl 1 y1_1, .sl 3 y1_2])]) H (kAt PP (orc spec_PuzzleValid.id) rec k spec_PuzzleValid.body [1, 1] [] (K0 PP Go.Proofs.Try.f20)) := by
  intros y1_0 y1_1 y1_2 H
  unfold spec_PuzzleValid.j1
  kernel_rfl
theorem spec_PuzzleValid.l0_eq (rec : Rec) (k : Nat) : ∀ n x3 y1_0 y1_1 y1_2 H, spec_PuzzleValid.l0 rec k n x3 y1_0 y1_1 y1_2 H = iter ((orc spec_PuzzleValid.id).at (lbody (sub spec_PuzzleValid.body [1, 0, 1, 0]))) (ex PP (orc spec_PuzzleValid.id) rec k (lbody (sub spec_PuzzleValid.body [1, 0, 1, 0]))) (kAt PP (orc spec_PuzzleValid.id) rec k spec_PuzzleValid.body [1, 0, 1, 0] [] (K0 PP Go.Proofs.Try.f20)) n (St.of 31 [(1, .lp 1 0), (3, .int .i64 x3)] [(1, [.int .i64 y1_0, .sl 1 y1_1, .sl 3 y1_2])]) H := by
  intro n
  induction n with
  | zero => intros; rfl
  | succ n ih =>
    intros x3 y1_0 y1_1 y1_2 H
    simp only [spec_PuzzleValid.l0, spec_PuzzleValid.j1_eq rec k, ih, -eq_self]
    kernel_rfl
theorem spec_PuzzleValid.f_eq (rec : Rec) (k : Nat) : ∀ a0_0 a0_1 a0_2 H, spec_PuzzleValid.f rec k a0_0 a0_1 a0_2 H = ex PP (orc spec_PuzzleValid.id) rec k spec_PuzzleValid.body (St.of 31 [(0, .agg [.int .i64 a0_0, .sl 1 a0_1, .sl 3 a0_2])] []) H (K0 PP Go.Proofs.Try.f20) := by
  intros a0_0 a0_1 a0_2 H
  unfold spec_PuzzleValid.f
  try simp only [spec_PuzzleValid.l0_eq rec k, -eq_self]
  kernel_rfl
theorem spec_PuzzleValid.call (k : Nat) : ∀ a0_0 a0_1 a0_2 H, callF PP orc (k + 1) spec_PuzzleValid.id [.agg [.int .i64 a0_0, .sl 1 a0_1, .sl 3 a0_2]] H = spec_PuzzleValid.f (callF PP orc k) k a0_0 a0_1 a0_2 H := by
  intros a0_0 a0_1 a0_2 H
  rw [callF_at (fn := Go.Proofs.Try.f20) (c := spec_PuzzleValid.body) Go.Proofs.Try.func20 (by kernel_rfl) (Nat.le_of_ble_eq_true (by kernel_rfl)), spec_PuzzleValid.f_eq]
  kernel_rfl
noncomputable def impl_PuzzleValid.body : Code := (Go.Proofs.Try.f19).body.getD .skip
noncomputable def impl_PuzzleValid.l2 (rec : Rec) (k : Nat) : Nat → Sl → Int → Int → Int → Sl → Sl → Hp → An
  | 0, _, _, _, _, _, _, _ => none
  | n + 1, x18, x19, x20, y1_0, y1_1, y1_2, H => bif decide (x20 < x19) then bif decide (0 ≤ (x20 : Int)) && decide ((x20 : Int) < x18.len) then (ldI .i64 H x18.blk (x18.off + (x20 : Int).toNat * 3)).bind fun n3 => (ldS 1 H x18.blk (x18.off + (x20 : Int).toNat * 3 + 1)).bind fun s4 => (ldI .i64 H x18.blk (x18.off + (x20 : Int).toNat * 3 + 1 + 1)).bind fun n5 => (rec impl_RuleValid.id [.agg [.int .i64 n3, .sl 1 s4, .int .i64 n5], .int .i64 y1_0] H).bind fun r6 => r6.1.toB.bind fun b7 => bif !b7 then some (.bool false, r6.2) else (impl_PuzzleValid.l2 rec k n) x18 x19 (IntKind.i64.wrap (x20 + 1)) y1_0 y1_1 y1_2 r6.2 else none else some (.bool true, H)
noncomputable def impl_PuzzleValid.j1 (rec : Rec) (k : Nat) (y1_0 : Int) (y1_1 : Sl) (y1_2 : Sl) (H : Hp) : An := impl_PuzzleValid.l2 rec k k y1_2 (y1_2.len : Int) 0 y1_0 y1_1 y1_2 H
noncomputable def impl_PuzzleValid.j0 (rec : Rec) (k : Nat) (x16 : Bool) (y1_0 : Int) (y1_1 : Sl) (y1_2 : Sl) (H : Hp) : An := bif x16 then some (.bool false, H) else impl_PuzzleValid.j1 rec k y1_0 y1_1 y1_2 H
noncomputable def impl_PuzzleValid.f (rec : Rec) (k : Nat) (a0_0 : Int) (a0_1 : Sl) (a0_2 : Sl) (H : Hp) : An := (rec impl_GridValid.id [.sl 1 a0_1, .int .i64 a0_0] H).bind fun r1 => r1.1.toB.bind fun b2 => bif !b2 then impl_PuzzleValid.j0 rec k true a0_0 a0_1 a0_2 r1.2 else impl_PuzzleValid.j0 rec k (decide ((a0_2.len : Int) > 20)) a0_0 a0_1 a0_2 r1.2
theorem impl_PuzzleValid.l2_eq (rec : Rec) (k : Nat) : ∀ n x18 x19 x20 y1_0 y1_1 y1_2 H, impl_PuzzleValid.l2 rec k n x18 x19 x20 y1_0 y1_1 y1_2 H = iter ((orc impl_PuzzleValid.id).at (lbody (sub impl_PuzzleValid.body [1, 1, 0, 1, 0]))) (ex PP (orc impl_PuzzleValid.id) rec k (lbody (sub impl_PuzzleValid.body [1, 1, 0, 1, 0]))) (kAt PP (orc impl_PuzzleValid.id) rec k impl_PuzzleValid.body [1, 1, 0, 1, 0] [] (K0 PP Go.Proofs.Try.f19)) n (St.of 30 [(1, .lp 1 0), (18, .sl 3 x18), (19, .int .i64 x19), (20, .int .i64 x20)] [(1, [.int .i64 y1_0, .sl 1 y1_1, .sl 3 y1_2])]) H := by
  intro n
  induction n with
  | zero => intros; rfl
  | succ n ih =>
    intros x18 x19 x20 y1_0 y1_1 y1_2 H
    simp only [impl_PuzzleValid.l2, ih, -eq_self]
    kernel_rfl
theorem impl_PuzzleValid.j1_eq (rec : Rec) (k : Nat) : ∀ y1_0 y1_1 y1_2 H, impl_PuzzleValid.j1 rec k y1_0 y1_1 y1_2 H = ex PP (orc impl_PuzzleValid.id) rec k (sub impl_PuzzleValid.body [1, 1]) (St.of 30 [(1, .lp 1 0)] [(1, [.int .i64 y1_0, .sl 1 y1_1, .sl 3 y1_2])]) H (kAt PP (orc impl_PuzzleValid.id) rec k impl_PuzzleValid.body [1, 1] [] (K0 PP Go.Proofs.Try.f19)) := by
  intros y1_0 y1_1 y1_2 H
  unfold impl_PuzzleValid.j1
  try simp only [impl_PuzzleValid.l2_eq rec k, -eq_self]
  kernel_rfl
theorem impl_PuzzleValid.j0_eq (rec : Rec) (k : Nat) : ∀ x16 y1_0 y1_1 y1_2 H, impl_PuzzleValid.j0 rec k x16 y1_0 y1_1 y1_2 H = ex PP (orc impl_PuzzleValid.id) rec k (sub impl_PuzzleValid.body [1, 0, 1]) (St.of 30 [(1, .lp 1 0), (16, .bool x16)] [(1, [.int .i64 y1_0, .sl 1 y1_1, .sl 3 y1_2])]) H (kAt PP (orc impl_PuzzleValid.id) rec k impl_PuzzleValid.body [1, 0, 1] [] (K0 PP Go.Proofs.Try.f19)) := by
  intros x16 y1_0 y1_1 y1_2 H
  unfold impl_PuzzleValid.j0
  try simp only [impl_PuzzleValid.j1_eq rec k, -eq_self]
  kernel_rfl
theorem impl_PuzzleValid.f_eq (rec : Rec) (k : Nat) : ∀ a0_0 a0_1 a0_2 H, impl_PuzzleValid.f rec k a0_0 a0_1 a0_2 H = ex PP (orc impl_PuzzleValid.id) rec k impl_PuzzleValid.body (St.of 30 [(0, .agg [.int .i64 a0_0, .sl 1 a0_1, .sl 3 a0_2])] []) H (K0 PP Go.Proofs.Try.f19) := by
  intros a0_0 a0_1 a0_2 H
  unfold impl_PuzzleValid.f
  try simp only [impl_PuzzleValid.j0_eq rec k, -eq_self]
  kernel_rfl
theorem impl_PuzzleValid.call (k : Nat) : ∀ a0_0 a0_1 a0_2 H, callF PP orc (k + 1) impl_PuzzleValid.id [.agg [.int .i64 a0_0, .sl 1 a0_1, .sl 3 a0_2]] H = impl_PuzzleValid.f (callF PP orc k) k a0_0 a0_1 a0_2 H := by
  intros a0_0 a0_1 a0_2 H
  rw [callF_at (fn := Go.Proofs.Try.f19) (c := impl_PuzzleValid.body) Go.Proofs.Try.func19 (by kernel_rfl) (Nat.le_of_ble_eq_true (by kernel_rfl)), impl_PuzzleValid.f_eq]
  kernel_rfl
end Go.Proofs.Ytjojhbdghhmeeaa.Rp
/- Rules: valid; both sides. No conditions. -/
set_option linter.unusedVariables false
set_option linter.unusedSimpArgs false
namespace Go.Proofs.Ytjojhbdghhmeeaa.Rp
open Go Go.RowKit Go.Proofs.Ytjojhbdghhmeeaa.Ab

theorem Index_l0 (rec : Rec) (k : Nat) {H : Hp} {s : Sl} {l : List Int} {v : Int} (hs : Reads .i64 H s l) (hl : l.length ≤ 1048576) :
    ∀ (j i fuel : Nat), i + j = l.length → j < fuel → ∃ r, slices_Index_int.l0 rec k fuel s v l.length i H = some (.int .i64 r, H) ∧ decide (r ≥ 0) = (l.drop i).contains v := by
  intro j
  induction j with
  | zero =>
    intro i fuel hi hf
    obtain ⟨fuel, rfl⟩ : ∃ q, fuel = q + 1 := ⟨fuel - 1, by omega⟩
    refine ⟨-1, ?_, by rw [List.drop_eq_nil_of_le (by omega)]; rfl⟩
    have : ¬ ((i : Int) < (l.length : Int)) := by omega
    simp only [slices_Index_int.l0, this, decide_false, cond_false]
  | succ j ih =>
    intro i fuel hi hf
    obtain ⟨fuel, rfl⟩ : ∃ q, fuel = q + 1 := ⟨fuel - 1, by omega⟩
    have h2 : i < l.length := by omega
    have h3 := reads_at hs i h2
    have h4 := wrs (i := i) (by omega)
    have q0 : (0 : Int) ≤ (i : Int) := by omega
    have q1 : (i : Int) < (l.length : Int) := by omega
    have q2 : (i : Int) < (s.len : Int) := by rw [hs.len]; omega
    rw [List.drop_eq_getElem_cons h2, List.contains_cons]
    cases c : (v == l[i]) with
    | true =>
      refine ⟨i, ?_, by simp⟩
      simp only [slices_Index_int.l0, q0, q1, q2, decide_true, Bool.and_self, cond_true, Int.toNat_natCast, Nat.mul_one, h3, Option.bind_some, c]
    | false =>
      obtain ⟨r, a1, a2⟩ := ih (i + 1) fuel (by omega) (by omega)
      push_cast at a1
      refine ⟨r, ?_, by rw [a2, Bool.false_or]⟩
      simp only [slices_Index_int.l0, q0, q1, q2, decide_true, Bool.and_self, cond_true, cond_false, Int.toNat_natCast, Nat.mul_one, h3, Option.bind_some, c, h4, a1]
theorem Contains_ok {k : Nat} (hk : 2000001 ≤ k) {H : Hp} {s : Sl} {l : List Int} (v : Int) (hs : Reads .i64 H s l) (hl : l.length ≤ 1048576) :
    callF PP orc k slices_Contains_int.id [.sl 1 s, .int .i64 v] H = some (.bool (l.contains v), H) := by
  obtain ⟨k, rfl⟩ : ∃ m, k = m + 1 := ⟨k - 1, by omega⟩
  rw [slices_Contains_int.call]
  obtain ⟨k, rfl⟩ : ∃ m, k = m + 1 := ⟨k - 1, by omega⟩
  obtain ⟨r, a1, a2⟩ := Index_l0 (callF PP orc k) k (v := v) hs hl l.length 0 k (by omega) (by omega)
  have e : callF PP orc (k + 1) slices_Index_int.id [.sl 1 s, .int .i64 v] H = some (.int .i64 r, H) := by
    rw [slices_Index_int.call]
    simp only [slices_Index_int.f, hs.len]
    exact a1
  simp only [slices_Contains_int.f, e, Option.bind_some, AV.toI, if_true, a2, List.drop_zero]

/-- The cells of a rule from the place i on: in the grid, and none twice. -/
def cellsOk (n : Int) (cells : List Int) : Nat → Nat → Bool
  | _, 0 => true
  | i, j + 1 => decide (0 ≤ cells.getD i 0 ∧ cells.getD i 0 ≤ n * n - 1) && (!(cells.take i).contains (cells.getD i 0) && cellsOk n cells (i + 1) j)
def kindOk (n kind value : Int) (len : Nat) : Bool :=
  if kind = 1 then decide (2 ≤ len ∧ len ≤ 4 ∧ value = 0) else if kind = 2 ∨ kind = 3 then decide (1 ≤ len ∧ len ≤ 4 ∧ 1 ≤ value ∧ value ≤ n * n * n * n)
  else if kind = 4 then decide (len = 2 ∧ value = 0) else if kind = 5 then decide (len = 2 ∧ 0 ≤ value ∧ value < n) else false
def ruleOk (n kind : Int) (cells : List Int) (value : Int) : Bool := cellsOk n cells 0 cells.length && kindOk n kind value cells.length

theorem n4_wraps {n : Int} (hn : 2 ≤ n ∧ n ≤ 4) : IntKind.i64.wrap (n * n) = n * n ∧ IntKind.i64.wrap (n * n - 1) = n * n - 1 ∧ IntKind.i64.wrap (n * n * n) = n * n * n ∧ IntKind.i64.wrap (n * n * n * n) = n * n * n * n := by
  have : n = 2 ∨ n = 3 ∨ n = 4 := by omega
  rcases this with rfl | rfl | rfl <;> exact ⟨wr (by decide) (by decide), wr (by decide) (by decide), wr (by decide) (by decide), wr (by decide) (by decide)⟩

theorem implRule_j2 (rec : Rec) (k : Nat) {n kind value : Int} {cs : Sl} {H : Hp} {len : Nat} (hn : 2 ≤ n ∧ n ≤ 4) (hl : cs.len = len) :
    impl_RuleValid.j2 rec k n kind cs value H = some (.bool (kindOk n kind value len), H) := by
  obtain ⟨w1, _, w3, w4⟩ := n4_wraps hn
  subst hl
  unfold kindOk
  have b1 : ∀ x : Int, (kind == x) = decide (kind = x) := fun x => by rw [Bool.eq_iff_iff]; simp
  have b2 : (value == 0) = decide (value = 0) := by rw [Bool.eq_iff_iff]; simp
  have b3 : ((cs.len : Int) == 2) = decide (cs.len = 2) := by rw [Bool.eq_iff_iff]; simp; omega
  have b4 : decide ((cs.len : Int) ≥ 2) = decide (2 ≤ cs.len) := decide_eq_decide.2 (by omega)
  have b5 : decide ((cs.len : Int) ≥ 1) = decide (1 ≤ cs.len) := decide_eq_decide.2 (by omega)
  have b6 : decide ((cs.len : Int) ≤ 4) = decide (cs.len ≤ 4) := decide_eq_decide.2 (by omega)
  simp only [impl_RuleValid.j2, impl_RuleValid.j4, w1, w3, w4, b1, b2, b3, b4, b5, b6]
  have two : ∀ (p q : Prop) [Decidable p] [Decidable q], (bif decide p then some (AV.bool (decide q), H) else some (AV.bool false, H)) = some (AV.bool (decide (p ∧ q)), H) := fun p q _ _ => by by_cases hp : p <;> simp [hp]
  by_cases k1 : kind = 1
  · simp only [k1, decide_true, cond_true, if_true, two]
  by_cases k2 : kind = 2
  · simp only [k1, k2, decide_true, decide_false, cond_true, cond_false, if_true, if_false, two, true_or]
    simp
  by_cases k3 : kind = 3
  · simp only [k1, k2, k3, decide_true, decide_false, cond_true, cond_false, if_true, if_false, two, or_true]
    simp
  by_cases k4 : kind = 4
  · simp only [k1, k2, k3, k4, decide_true, decide_false, cond_true, cond_false, if_true, if_false, two]
    simp
  by_cases k5 : kind = 5
  · simp only [k1, k2, k3, k4, k5, decide_true, decide_false, cond_true, cond_false, if_true, if_false, two]
    simp
  simp [k1, k2, k3, k4, k5]

theorem reads_pre {k : IntKind} {H : Hp} {s : Sl} {l : List Int} (h : Reads k H s l) (m : Nat) (hm : m ≤ l.length) (b : Bool) : Reads k H (Sl.mk b s.blk s.off m) (l.take m) :=
  ⟨by simp; omega, fun i hi => by
    have hi' : i < l.length := by simp at hi; omega
    simpa using h.cell i hi'⟩
theorem implRule_l0 {k : Nat} (hk : 2000001 ≤ k) {n kind value : Int} {cs : Sl} {H : Hp} {cells : List Int} (hn : 2 ≤ n ∧ n ≤ 4) (hs : Reads .i64 H cs cells) (hl : cells.length ≤ 1000) :
    ∀ (j i fuel : Nat), i + j = cells.length → j < fuel → impl_RuleValid.l0 (callF PP orc k) k fuel n cs cells.length i kind cs value H = some (.bool (cellsOk n cells i j && kindOk n kind value cells.length), H) := by
  obtain ⟨w1, w2, _, _⟩ := n4_wraps hn
  intro j
  induction j with
  | zero =>
    intro i fuel hi hf
    obtain ⟨fuel, rfl⟩ : ∃ q, fuel = q + 1 := ⟨fuel - 1, by omega⟩
    have : ¬ ((i : Int) < (cells.length : Int)) := by omega
    simp only [impl_RuleValid.l0, this, decide_false, cond_false, cellsOk, Bool.true_and]
    exact implRule_j2 _ k hn hs.len
  | succ j ih =>
    intro i fuel hi hf
    obtain ⟨fuel, rfl⟩ : ∃ q, fuel = q + 1 := ⟨fuel - 1, by omega⟩
    have h2 : i < cells.length := by omega
    have h3 := reads_at hs i h2
    have h4 := wrs (i := i) (by omega)
    have h5 := ih (i + 1) fuel (by omega) (by omega)
    push_cast at h5
    have q0 : (0 : Int) ≤ (i : Int) := by omega
    have q1 : (i : Int) < (cells.length : Int) := by omega
    have q2 : (i : Int) < (cs.len : Int) := by rw [hs.len]; omega
    have hg : cells.getD i 0 = cells[i] := by simp [List.getD_eq_getElem?_getD, h2]
    have hc := Contains_ok hk cells[i] (reads_pre hs i (by omega) cs.nil) (by simp; omega)
    have e : Sl.mk cs.nil cs.blk (cs.off + (0 : Int).toNat * 1) ((i : Int) - 0).toNat = Sl.mk cs.nil cs.blk cs.off i := by simp
    rw [cellsOk, hg]
    by_cases c1 : cells[i] < 0
    · have d : decide (0 ≤ cells[i] ∧ cells[i] ≤ n * n - 1) = false := decide_eq_false (by omega)
      simp only [impl_RuleValid.l0, impl_RuleValid.j1, q0, q1, q2, decide_true, Bool.and_self, cond_true, Int.toNat_natCast, Nat.mul_one, h3, Option.bind_some, c1, d, Bool.false_and]
    · by_cases c2 : cells[i] ≥ n * n
      · have d : decide (0 ≤ cells[i] ∧ cells[i] ≤ n * n - 1) = false := decide_eq_false (by omega)
        simp only [impl_RuleValid.l0, impl_RuleValid.j1, q0, q1, q2, decide_true, decide_false, Bool.and_self, cond_true, cond_false, Int.toNat_natCast, Nat.mul_one, h3, Option.bind_some, c1, w1, c2, d, Bool.false_and]
      · have d : decide (0 ≤ cells[i] ∧ cells[i] ≤ n * n - 1) = true := decide_eq_true (by omega)
        have hcond : (0 ≤ (0 : Int) ∧ (0 : Int) ≤ (i : Int) ∧ (i : Int) ≤ cs.len ∧ (i : Int) = (i : Int)) ∧ 0 < 1 ∧ true = true := ⟨⟨by omega, by omega, by omega, rfl⟩, by omega, rfl⟩
        cases hb : (cells.take i).contains cells[i] with
        | true =>
          rw [hb] at hc
          simp only [impl_RuleValid.l0, impl_RuleValid.j1, q0, q1, q2, decide_true, decide_false, Bool.and_self, cond_true, cond_false, Int.toNat_natCast, Nat.mul_one, h3, Option.bind_some, c1, w1, c2, d]
          rw [if_pos (by simp; omega)]
          have hc' : callF PP orc k slices_Contains_int.id [.sl 1 (Sl.mk cs.nil cs.blk (cs.off + (0 : Int).toNat) ((i : Int) - 0).toNat), .int .i64 cells[i]] H = some (.bool true, H) := by simpa using hc
          simp only [hc', Option.bind_some, AV.toB, cond_true, Bool.not_true, Bool.false_and, Bool.true_and]
        | false =>
          rw [hb] at hc
          simp only [impl_RuleValid.l0, impl_RuleValid.j1, impl_RuleValid.j3, q0, q1, q2, decide_true, decide_false, Bool.and_self, cond_true, cond_false, Int.toNat_natCast, Nat.mul_one, h3, Option.bind_some, c1, w1, c2, d]
          rw [if_pos (by simp; omega)]
          have hc' : callF PP orc k slices_Contains_int.id [.sl 1 (Sl.mk cs.nil cs.blk (cs.off + (0 : Int).toNat) ((i : Int) - 0).toNat), .int .i64 cells[i]] H = some (.bool false, H) := by simpa using hc
          simp only [hc', Option.bind_some, AV.toB, cond_false, Bool.not_false, Bool.true_and, h4, h5]
theorem implRuleValid_ok {k : Nat} (hk : 2000002 ≤ k) {n kind value : Int} {cs : Sl} {H : Hp} {cells : List Int} (hn : 2 ≤ n ∧ n ≤ 4) (hs : Reads .i64 H cs cells) (hl : cells.length ≤ 1000) :
    callF PP orc k impl_RuleValid.id [.agg [.int .i64 kind, .sl 1 cs, .int .i64 value], .int .i64 n] H = some (.bool (ruleOk n kind cells value), H) := by
  obtain ⟨k, rfl⟩ : ∃ m, k = m + 1 := ⟨k - 1, by omega⟩
  rw [impl_RuleValid.call]
  have := implRule_l0 (show 2000001 ≤ k by omega) (kind := kind) (value := value) hn hs hl cells.length 0 k (by omega) (by omega)
  simp only [impl_RuleValid.f, sizeOk_ok (show 1 ≤ k by omega), hn, and_self, decide_true, Option.bind_some, AV.toB, Bool.not_true, cond_false, hs.len]
  exact this
end Go.Proofs.Ytjojhbdghhmeeaa.Rp
/- Rules: valid; the model's side. Puzzles: valid, both sides. No conditions. -/
set_option linter.unusedVariables false
set_option linter.unusedSimpArgs false
namespace Go.Proofs.Ytjojhbdghhmeeaa.Rp
open Go Go.RowKit Go.Proofs.Ytjojhbdghhmeeaa.Ab

theorem specRule_l1 (rec : Rec) (k : Nat) (L0 : Int → Int → Int → Sl → Int → Hp → An) {n kind value : Int} {cs : Sl} {H : Hp} {cells : List Int} (hs : Reads .i64 H cs cells) (hl : cells.length ≤ 1000) {i : Nat} (hi : i < cells.length) :
    ∀ (j m fuel : Nat), m + j = i → j < fuel → spec_RuleValid.l1 rec k L0 fuel n i m kind cs value H = bif ((cells.take i).drop m).contains cells[i] then some (.bool false, H) else L0 n ((i : Int) + 1) kind cs value H := by
  intro j
  induction j with
  | zero =>
    intro m fuel hm hf
    obtain ⟨fuel, rfl⟩ : ∃ q, fuel = q + 1 := ⟨fuel - 1, by omega⟩
    have : ¬ ((m : Int) < (i : Int)) := by omega
    have h4 := wrs (i := i) (by omega)
    rw [List.drop_eq_nil_of_le (by simp; omega)]
    simp only [spec_RuleValid.l1, spec_RuleValid.j3, this, decide_false, cond_false, h4, List.contains_nil]
  | succ j ih =>
    intro m fuel hm hf
    obtain ⟨fuel, rfl⟩ : ∃ q, fuel = q + 1 := ⟨fuel - 1, by omega⟩
    have h2 : m < cells.length := by omega
    have h3 := reads_at hs m h2
    have h3' := reads_at hs i hi
    have h4 := wrs (i := m) (by omega)
    have h5 := ih (m + 1) fuel (by omega) (by omega)
    push_cast at h5
    have q0 : (0 : Int) ≤ (m : Int) := by omega
    have q1 : (m : Int) < (i : Int) := by omega
    have q2 : (m : Int) < (cs.len : Int) := by rw [hs.len]; omega
    have q3 : (0 : Int) ≤ (i : Int) := by omega
    have q4 : (i : Int) < (cs.len : Int) := by rw [hs.len]; omega
    have ht : m < (cells.take i).length := by simp; omega
    rw [List.drop_eq_getElem_cons ht, List.contains_cons]
    have e : (cells.take i)[m] = cells[m] := by simp
    rw [e]
    have hb : (cells[i] == cells[m]) = (cells[m] == cells[i]) := by rw [Bool.eq_iff_iff, beq_iff_eq, beq_iff_eq]; exact eq_comm
    rw [hb]
    cases c : (cells[m] == cells[i]) with
    | true => simp only [spec_RuleValid.l1, q0, q1, q2, q3, q4, decide_true, Bool.and_self, cond_true, Int.toNat_natCast, Nat.mul_one, h3, h3', Option.bind_some, c, Bool.true_or]
    | false => simp only [spec_RuleValid.l1, q0, q1, q2, q3, q4, decide_true, Bool.and_self, cond_true, cond_false, Int.toNat_natCast, Nat.mul_one, h3, h3', Option.bind_some, c, Bool.false_or, h4, h5]

theorem specRule_j2 {k : Nat} (hk : 1 ≤ k) {n kind value : Int} {cs : Sl} {H : Hp} {len : Nat} (hn : 2 ≤ n ∧ n ≤ 4) (hl : cs.len = len) :
    spec_RuleValid.j2 (callF PP orc k) k n kind cs value H = some (.bool (kindOk n kind value len), H) := by
  obtain ⟨w1, _, w3, w4⟩ := n4_wraps hn
  have w5 : IntKind.i64.wrap (n - 1) = n - 1 := wr (by omega) (by omega)
  subst hl
  unfold kindOk
  have b1 : ∀ x : Int, (kind == x) = decide (kind = x) := fun x => by rw [Bool.eq_iff_iff]; simp
  have b2 : (value == 0) = decide (value = 0) := by rw [Bool.eq_iff_iff]; simp
  have b3 : ((cs.len : Int) == 2) = decide (cs.len = 2) := by rw [Bool.eq_iff_iff]; simp; omega
  have b4 : decide ((cs.len : Int) ≥ 2) = decide (2 ≤ cs.len) := decide_eq_decide.2 (by omega)
  have b5 : decide ((cs.len : Int) ≥ 1) = decide (1 ≤ cs.len) := decide_eq_decide.2 (by omega)
  have b6 : decide ((cs.len : Int) > 4) = decide (4 < cs.len) := decide_eq_decide.2 (by omega)
  simp only [spec_RuleValid.j2, spec_RuleValid.j4, spec_RuleValid.j5, spec_RuleValid.j6, l1In_ok hk, hn, and_self, decide_true, Option.bind_some, AV.toB, Bool.not_true, cond_false, w1, w3, w4, w5, b1, b2, b3, b4, b5, b6]
  have two : ∀ (p q : Prop) [Decidable p] [Decidable q], (bif decide p then some (AV.bool (decide q), H) else some (AV.bool false, H)) = some (AV.bool (decide (p ∧ q)), H) := fun p q _ _ => by by_cases hp : p <;> simp [hp]
  by_cases c4 : 4 < cs.len
  · have z : ∀ q : Prop, (cs.len ≤ 4 ∧ q) = False := fun q => by simp; omega
    have z2 : ∀ q : Prop, (cs.len = 2 ∧ q) = False := fun q => by simp; omega
    simp only [c4, decide_true, cond_true]
    have e1 : ¬ (2 ≤ cs.len ∧ cs.len ≤ 4 ∧ value = 0) := by omega
    have e2 : ¬ (1 ≤ cs.len ∧ cs.len ≤ 4 ∧ 1 ≤ value ∧ value ≤ n * n * n * n) := by omega
    have e3 : ¬ (cs.len = 2 ∧ value = 0) := by omega
    have e4 : ¬ (cs.len = 2 ∧ 0 ≤ value ∧ value < n) := by omega
    simp only [e1, e2, e3, e4, decide_false]
    repeat' split
    all_goals rfl
  · have f1 : decide (2 ≤ cs.len ∧ cs.len ≤ 4 ∧ value = 0) = decide (2 ≤ cs.len ∧ value = 0) := decide_eq_decide.2 (by omega)
    have f2 : decide (1 ≤ cs.len ∧ cs.len ≤ 4 ∧ 1 ≤ value ∧ value ≤ n * n * n * n) = decide (1 ≤ cs.len ∧ 1 ≤ value ∧ value ≤ n * n * n * n) := decide_eq_decide.2 (by omega)
    have f3 : decide (cs.len = 2 ∧ 0 ≤ value ∧ value < n) = decide (cs.len = 2 ∧ 0 ≤ value ∧ value ≤ n - 1) := decide_eq_decide.2 (by omega)
    simp only [c4, decide_false, cond_false, f1, f2, f3, two]
    by_cases k1 : kind = 1
    · simp only [k1, decide_true, cond_true, if_true]
    by_cases k2 : kind = 2
    · subst k2; simp
    by_cases k3 : kind = 3
    · subst k3; simp
    by_cases k4 : kind = 4
    · subst k4; simp
    by_cases k5 : kind = 5
    · subst k5; simp
    simp [k1, k2, k3, k4, k5]

theorem specRule_l0 {k : Nat} (hk : 2000001 ≤ k) {n kind value : Int} {cs : Sl} {H : Hp} {cells : List Int} (hn : 2 ≤ n ∧ n ≤ 4) (hs : Reads .i64 H cs cells) (hl : cells.length ≤ 1000) :
    ∀ (j i fuel : Nat), i + j = cells.length → j < fuel → spec_RuleValid.l0 (callF PP orc k) k fuel n i kind cs value H = some (.bool (cellsOk n cells i j && kindOk n kind value cells.length), H) := by
  obtain ⟨w1, w2, _, _⟩ := n4_wraps hn
  intro j
  induction j with
  | zero =>
    intro i fuel hi hf
    obtain ⟨fuel, rfl⟩ : ∃ q, fuel = q + 1 := ⟨fuel - 1, by omega⟩
    have : ¬ ((i : Int) < (cs.len : Int)) := by rw [hs.len]; omega
    simp only [spec_RuleValid.l0, this, decide_false, cond_false, cellsOk, Bool.true_and]
    exact specRule_j2 (by omega) hn hs.len
  | succ j ih =>
    intro i fuel hi hf
    obtain ⟨fuel, rfl⟩ : ∃ q, fuel = q + 1 := ⟨fuel - 1, by omega⟩
    have h2 : i < cells.length := by omega
    have h3 := reads_at hs i h2
    have h5 := ih (i + 1) fuel (by omega) (by omega)
    push_cast at h5
    have q0 : (0 : Int) ≤ (i : Int) := by omega
    have q2 : (i : Int) < (cs.len : Int) := by rw [hs.len]; omega
    have hg : cells.getD i 0 = cells[i] := by simp [List.getD_eq_getElem?_getD, h2]
    have h6 := specRule_l1 (callF PP orc k) k (spec_RuleValid.l0 (callF PP orc k) k fuel) (n := n) (kind := kind) (value := value) hs hl h2 i 0 k (by omega) (by omega)
    simp only [List.drop_zero, Int.natCast_zero] at h6
    rw [cellsOk, hg]
    by_cases c1 : 0 ≤ cells[i] ∧ cells[i] ≤ n * n - 1
    · cases hb : (cells.take i).contains cells[i] with
      | true =>
        rw [hb] at h6
        simp only [spec_RuleValid.l0, q0, q2, decide_true, Bool.and_self, cond_true, cond_false, Int.toNat_natCast, Nat.mul_one, h3, Option.bind_some, w1, w2, l1In_ok (show 1 ≤ k by omega), AV.toB, c1, and_self, Bool.not_true, h6, Bool.true_and, Bool.false_and]
      | false =>
        rw [hb] at h6
        simp only [spec_RuleValid.l0, q0, q2, decide_true, Bool.and_self, cond_true, cond_false, Int.toNat_natCast, Nat.mul_one, h3, Option.bind_some, w1, w2, l1In_ok (show 1 ≤ k by omega), AV.toB, c1, and_self, Bool.not_true, Bool.not_false, h6, h5, Bool.true_and]
    · simp only [spec_RuleValid.l0, q0, q2, decide_true, decide_false, Bool.and_self, cond_true, Int.toNat_natCast, Nat.mul_one, h3, Option.bind_some, w1, w2, l1In_ok (show 1 ≤ k by omega), AV.toB, c1, Bool.not_false, Bool.false_and]
theorem specRuleValid_ok {k : Nat} (hk : 2000002 ≤ k) {n kind value : Int} {cs : Sl} {H : Hp} {cells : List Int} (hn : 2 ≤ n ∧ n ≤ 4) (hs : Reads .i64 H cs cells) (hl : cells.length ≤ 1000) :
    callF PP orc k spec_RuleValid.id [.agg [.int .i64 kind, .sl 1 cs, .int .i64 value], .int .i64 n] H = some (.bool (ruleOk n kind cells value), H) := by
  obtain ⟨k, rfl⟩ : ∃ m, k = m + 1 := ⟨k - 1, by omega⟩
  rw [spec_RuleValid.call]
  exact specRule_l0 (show 2000001 ≤ k by omega) hn hs hl cells.length 0 k (by omega) (by omega)
end Go.Proofs.Ytjojhbdghhmeeaa.Rp
/- Lists of rules, as they are read. No conditions. -/
set_option linter.unusedVariables false
set_option linter.unusedSimpArgs false
namespace Go.Proofs.Ytjojhbdghhmeeaa.Rp
open Go Go.RowKit Go.Proofs.Ytjojhbdghhmeeaa.Ab

/-- A rule as it lies in memory: its cells are a slice sl. -/
structure R where
  kind : Int
  sl : Sl
  cells : List Int
  value : Int
def R.val (r : R) : Int × List Int × Int := (r.kind, r.cells, r.value)
def R.av (r : R) : List AV := [.int .i64 r.kind, .sl 1 r.sl, .int .i64 r.value]

structure ReadsR (H : Hp) (s : Sl) (rs : List R) : Prop where
  len : s.len = rs.length
  c0 : ∀ i, (h : i < rs.length) → H.cell s.blk (s.off + i * 3) = some (.int .i64 rs[i].kind)
  c1 : ∀ i, (h : i < rs.length) → H.cell s.blk (s.off + i * 3 + 1) = some (.sl 1 rs[i].sl)
  c2 : ∀ i, (h : i < rs.length) → H.cell s.blk (s.off + i * 3 + 2) = some (.int .i64 rs[i].value)
  cs : ∀ i, (h : i < rs.length) → Reads .i64 H rs[i].sl rs[i].cells
theorem pf_readsR {H H' : Hp} (g : H <+: H') {s : Sl} {rs : List R} (h : ReadsR H s rs) : ReadsR H' s rs :=
  ⟨h.len, fun i hi => pf_cell g (h.c0 i hi), fun i hi => pf_cell g (h.c1 i hi), fun i hi => pf_cell g (h.c2 i hi), fun i hi => pf_reads g (h.cs i hi)⟩

theorem flat0 : ∀ (rs : List R) (i : Nat), (h : i < rs.length) → (rs.flatMap R.av)[i * 3]? = some (.int .i64 rs[i].kind) ∧ (rs.flatMap R.av)[i * 3 + 1]? = some (.sl 1 rs[i].sl) ∧ (rs.flatMap R.av)[i * 3 + 2]? = some (.int .i64 rs[i].value)
  | r :: rs, 0, h => by simp [R.av]
  | r :: rs, i + 1, h => by
    have := flat0 rs i (by simpa using h)
    have e : (i + 1) * 3 = i * 3 + 3 := by omega
    rw [e]
    simpa [R.av] using this
theorem flat_length (rs : List R) : (rs.flatMap R.av).length = rs.length * 3 := by
  induction rs with
  | nil => rfl
  | cons r rs ih => simp [ih, R.av]; omega
end Go.Proofs.Ytjojhbdghhmeeaa.Rp
/- Puzzles: valid, both sides. No conditions. -/
set_option linter.unusedVariables false
set_option linter.unusedSimpArgs false
namespace Go.Proofs.Ytjojhbdghhmeeaa.Rp
open Go Go.RowKit Go.Proofs.Ytjojhbdghhmeeaa.Ab

def R.ok (n : Int) (r : R) : Bool := ruleOk n r.kind r.cells r.value
def puzzleOk (n : Int) (g : List Int) (rs : List R) : Bool := gridOk g n && (decide (rs.length ≤ 20) && rs.all (R.ok n))
theorem rules_at {H : Hp} {s : Sl} {rs : List R} (h : ReadsR H s rs) (i : Nat) (hi : i < rs.length) :
    ldI .i64 H s.blk (s.off + i * 3) = some rs[i].kind ∧ ldS 1 H s.blk (s.off + i * 3 + 1) = some rs[i].sl ∧ ldI .i64 H s.blk (s.off + i * 3 + 1 + 1) = some rs[i].value := by
  refine ⟨?_, ?_, ?_⟩
  · unfold ldI; rw [h.c0 i hi]; simp [AV.toI]
  · unfold ldS; rw [h.c1 i hi]; simp [AV.toS]
  · unfold ldI; rw [show s.off + i * 3 + 1 + 1 = s.off + i * 3 + 2 from rfl, h.c2 i hi]; simp [AV.toI]

theorem implPuzzle_l2 {k : Nat} (hk : 2000002 ≤ k) {n : Int} {H : Hp} {gs s : Sl} {rs : List R} (hn : 2 ≤ n ∧ n ≤ 4) (hs : ReadsR H s rs) (hl : rs.length ≤ 1000) (hc : ∀ r ∈ rs, r.cells.length ≤ 1000) :
    ∀ (j i fuel : Nat), i + j = rs.length → j < fuel → impl_PuzzleValid.l2 (callF PP orc k) k fuel s rs.length i n gs s H = some (.bool ((rs.drop i).all (R.ok n)), H) := by
  intro j
  induction j with
  | zero =>
    intro i fuel hi hf
    obtain ⟨fuel, rfl⟩ : ∃ q, fuel = q + 1 := ⟨fuel - 1, by omega⟩
    have : ¬ ((i : Int) < (rs.length : Int)) := by omega
    rw [List.drop_eq_nil_of_le (by omega)]
    simp only [impl_PuzzleValid.l2, this, decide_false, cond_false, List.all_nil]
  | succ j ih =>
    intro i fuel hi hf
    obtain ⟨fuel, rfl⟩ : ∃ q, fuel = q + 1 := ⟨fuel - 1, by omega⟩
    have h2 : i < rs.length := by omega
    obtain ⟨l0, l1, l2⟩ := rules_at hs i h2
    have h4 := wrs (i := i) (by omega)
    have h5 := ih (i + 1) fuel (by omega) (by omega)
    push_cast at h5
    have h6 := implRuleValid_ok hk (kind := rs[i].kind) (value := rs[i].value) hn (hs.cs i h2) (hc _ (List.getElem_mem h2))
    have q0 : (0 : Int) ≤ (i : Int) := by omega
    have q1 : (i : Int) < (rs.length : Int) := by omega
    have q2 : (i : Int) < (s.len : Int) := by rw [hs.len]; omega
    rw [List.drop_eq_getElem_cons h2, List.all_cons]
    have e : R.ok n rs[i] = ruleOk n rs[i].kind rs[i].cells rs[i].value := rfl
    rw [e]
    cases c : ruleOk n rs[i].kind rs[i].cells rs[i].value with
    | true =>
      rw [c] at h6
      simp only [impl_PuzzleValid.l2, q0, q1, q2, decide_true, Bool.and_self, cond_true, Int.toNat_natCast, l0, l1, l2, Option.bind_some, h6, AV.toB, Bool.not_true, cond_false, h4, h5, Bool.true_and]
    | false =>
      rw [c] at h6
      simp only [impl_PuzzleValid.l2, q0, q1, q2, decide_true, Bool.and_self, cond_true, Int.toNat_natCast, l0, l1, l2, Option.bind_some, h6, AV.toB, Bool.not_false, Bool.false_and]
theorem implPuzzleValid_ok {k : Nat} (hk : 2000003 ≤ k) {n : Int} {H : Hp} {gs s : Sl} {g : List Int} {rs : List R} (hn : 2 ≤ n ∧ n ≤ 4) (hg : Reads .i64 H gs g) (hgl : g.length ≤ 1000) (hs : ReadsR H s rs) (hl : rs.length ≤ 1000) (hc : ∀ r ∈ rs, r.cells.length ≤ 1000) :
    callF PP orc k impl_PuzzleValid.id [.agg [.int .i64 n, .sl 1 gs, .sl 3 s]] H = some (.bool (puzzleOk n g rs), H) := by
  obtain ⟨k, rfl⟩ : ∃ m, k = m + 1 := ⟨k - 1, by omega⟩
  rw [impl_PuzzleValid.call]
  have h1 := implGridValid_ok (show 2000000 ≤ k by omega) hg (by omega) n
  have h2 := implPuzzle_l2 (show 2000002 ≤ k by omega) (gs := gs) hn hs hl hc rs.length 0 k (by omega) (by omega)
  simp only [List.drop_zero, Int.natCast_zero] at h2
  unfold puzzleOk
  cases c : gridOk g n with
  | false => simp only [impl_PuzzleValid.f, impl_PuzzleValid.j0, h1, c, Option.bind_some, AV.toB, Bool.not_false, cond_true, Bool.false_and]
  | true =>
    by_cases c2 : rs.length ≤ 20
    · have : ¬ ((rs.length : Int) > 20) := by omega
      simp only [impl_PuzzleValid.f, impl_PuzzleValid.j0, impl_PuzzleValid.j1, h1, c, Option.bind_some, AV.toB, Bool.not_true, cond_false, hs.len, this, decide_false, c2, decide_true, Bool.true_and]
      exact h2
    · have : ((rs.length : Int) > 20) := by omega
      simp only [impl_PuzzleValid.f, impl_PuzzleValid.j0, h1, c, Option.bind_some, AV.toB, Bool.not_true, cond_false, cond_true, hs.len, this, decide_true, c2, decide_false, Bool.true_and, Bool.false_and]

theorem specPuzzle_l0 {k : Nat} (hk : 2000002 ≤ k) {n : Int} {H : Hp} {gs s : Sl} {g : List Int} {rs : List R} (hn : 2 ≤ n ∧ n ≤ 4) (hg : Reads .i64 H gs g) (hgl : g.length ≤ 1000) (hs : ReadsR H s rs) (hl : rs.length ≤ 1000) (hc : ∀ r ∈ rs, r.cells.length ≤ 1000) :
    ∀ (j i fuel : Nat), i + j = rs.length → j < fuel → spec_PuzzleValid.l0 (callF PP orc k) k fuel i n gs s H = some (.bool ((rs.drop i).all (R.ok n) && (gridOk g n && decide (rs.length ≤ 20))), H) := by
  intro j
  induction j with
  | zero =>
    intro i fuel hi hf
    obtain ⟨fuel, rfl⟩ : ∃ q, fuel = q + 1 := ⟨fuel - 1, by omega⟩
    have : ¬ ((i : Int) < (rs.length : Int)) := by omega
    have h1 := specGridValid_ok (show 2000000 ≤ k by omega) hg (by omega) n
    have e : decide ((rs.length : Int) ≤ 20) = decide (rs.length ≤ 20) := decide_eq_decide.2 (by omega)
    rw [List.drop_eq_nil_of_le (by omega)]
    simp only [spec_PuzzleValid.l0, spec_PuzzleValid.j1, hs.len, this, decide_false, cond_false, List.all_nil, h1, Option.bind_some, AV.toB, e, Bool.true_and]
    cases gridOk g n <;> rfl
  | succ j ih =>
    intro i fuel hi hf
    obtain ⟨fuel, rfl⟩ : ∃ q, fuel = q + 1 := ⟨fuel - 1, by omega⟩
    have h2 : i < rs.length := by omega
    obtain ⟨l0, l1, l2⟩ := rules_at hs i h2
    have h4 := wrs (i := i) (by omega)
    have h5 := ih (i + 1) fuel (by omega) (by omega)
    push_cast at h5
    have h6 := specRuleValid_ok hk (kind := rs[i].kind) (value := rs[i].value) hn (hs.cs i h2) (hc _ (List.getElem_mem h2))
    have q0 : (0 : Int) ≤ (i : Int) := by omega
    have q2 : (i : Int) < (s.len : Int) := by rw [hs.len]; omega
    rw [List.drop_eq_getElem_cons h2, List.all_cons]
    have e : R.ok n rs[i] = ruleOk n rs[i].kind rs[i].cells rs[i].value := rfl
    rw [e]
    cases c : ruleOk n rs[i].kind rs[i].cells rs[i].value with
    | true =>
      rw [c] at h6
      simp only [spec_PuzzleValid.l0, q0, q2, decide_true, Bool.and_self, cond_true, Int.toNat_natCast, l0, l1, l2, Option.bind_some, h6, AV.toB, Bool.not_true, cond_false, h4, h5, Bool.true_and]
    | false =>
      rw [c] at h6
      simp only [spec_PuzzleValid.l0, q0, q2, decide_true, Bool.and_self, cond_true, Int.toNat_natCast, l0, l1, l2, Option.bind_some, h6, AV.toB, Bool.not_false, Bool.false_and]
theorem specPuzzleValid_ok {k : Nat} (hk : 2000003 ≤ k) {n : Int} {H : Hp} {gs s : Sl} {g : List Int} {rs : List R} (hn : 2 ≤ n ∧ n ≤ 4) (hg : Reads .i64 H gs g) (hgl : g.length ≤ 1000) (hs : ReadsR H s rs) (hl : rs.length ≤ 1000) (hc : ∀ r ∈ rs, r.cells.length ≤ 1000) :
    callF PP orc k spec_PuzzleValid.id [.agg [.int .i64 n, .sl 1 gs, .sl 3 s]] H = some (.bool (puzzleOk n g rs), H) := by
  obtain ⟨k, rfl⟩ : ∃ m, k = m + 1 := ⟨k - 1, by omega⟩
  rw [spec_PuzzleValid.call]
  have h2 := specPuzzle_l0 (show 2000002 ≤ k by omega) hn hg hgl hs hl hc rs.length 0 k (by omega) (by omega)
  have e : puzzleOk n g rs = (rs.all (R.ok n) && (gridOk g n && decide (rs.length ≤ 20))) := by
    unfold puzzleOk
    cases gridOk g n <;> cases rs.all (R.ok n) <;> cases decide (rs.length ≤ 20) <;> rfl
  rw [e]
  exact h2
end Go.Proofs.Ytjojhbdghhmeeaa.Rp
/- Functions of the program as plain Lean functions. No conditions. -/
set_option linter.unusedVariables false
set_option linter.unusedSimpArgs false
set_option maxRecDepth 100000
namespace Go.Proofs.Ytjojhbdghhmeeaa.Rp
open Go Go.Proofs.Ytjojhbdghhmeeaa.Ab
noncomputable def spec_MaskValues.body : Code := (Go.Proofs.Try.f89).body.getD .skip
noncomputable def spec_MaskValues.j3 (rec : Rec) (k : Nat) (x3 : Sl) (H : Hp) : An := some (.sl 1 x3, H)
noncomputable def spec_MaskValues.j4 (rec : Rec) (k : Nat) (L0 : Int → Sl → Int → Hp → An) (x0 : Int) (x3 : Sl) (x4 : Int) (H : Hp) : An := L0 x0 x3 (IntKind.i64.wrap (x4 + 1)) H
noncomputable def spec_MaskValues.j2 (rec : Rec) (k : Nat) (L0 : Int → Sl → Int → Hp → An) (x0 : Int) (x3 : Sl) (x4 : Int) (H : Hp) : An := if (x4 : Int) < 0 then none else bif (((x0 : Int).fdiv (2 ^ (min (x4 : Int).toNat IntKind.i64.bits)) : Int).tmod 2) == 1 then (H.app 1 x3 1 [.int .i64 x4]).bind fun w3 => spec_MaskValues.j4 rec k L0 x0 w3.1 x4 w3.2 else spec_MaskValues.j4 rec k L0 x0 x3 x4 H
noncomputable def spec_MaskValues.j1 (rec : Rec) (k : Nat) (L0 : Int → Sl → Int → Hp → An) (x0 : Int) (x3 : Sl) (x4 : Int) (x16 : Bool) (H : Hp) : An := bif x16 then spec_MaskValues.j2 rec k L0 x0 x3 x4 H else spec_MaskValues.j3 rec k x3 H
noncomputable def spec_MaskValues.l0 (rec : Rec) (k : Nat) : Nat → Int → Sl → Int → Hp → An
  | 0, _, _, _, _ => none
  | n + 1, x0, x3, x4, H => bif decide (x4 ≤ 4) then (rec spec_l1In.id [.int .i64 x0, .int .i64 0, .int .i64 30] H).bind fun r1 => r1.1.toB.bind fun b2 => bif b2 then spec_MaskValues.j1 rec k (spec_MaskValues.l0 rec k n) x0 x3 x4 (((x0 : Int).tmod 2) == 0) r1.2 else spec_MaskValues.j1 rec k (spec_MaskValues.l0 rec k n) x0 x3 x4 false r1.2 else spec_MaskValues.j1 rec k (spec_MaskValues.l0 rec k n) x0 x3 x4 false H
noncomputable def spec_MaskValues.f (rec : Rec) (k : Nat) (a0 : Int) (H : Hp) : An := spec_MaskValues.l0 rec k k a0 (Sl.mk false H.length 0 0) 1 (H ++ [some (Blk.mk false [])])
theorem spec_MaskValues.j3_eq (rec : Rec) (k : Nat) : ∀ x3 H, spec_MaskValues.j3 rec k x3 H = ex PP (orc spec_MaskValues.id) rec k (sub spec_MaskValues.body [1, 1, 1]) (St.of 29 [(3, .sl 1 x3)] []) H (kAt PP (orc spec_MaskValues.id) rec k spec_MaskValues.body [1, 1, 1] [] (K0 PP Go.Proofs.Try.f89)) := by
  intros x3 H
  unfold spec_MaskValues.j3
  kernel_rfl
theorem spec_MaskValues.j4_eq (rec : Rec) (k : Nat) (n0 : Nat) (L0 : Int → Sl → Int → Hp → An) (hL0 : ∀ x0 x3 x4 H, L0 x0 x3 x4 H = iter ((orc spec_MaskValues.id).at (lbody (sub spec_MaskValues.body [1, 1, 0, 1, 0]))) (ex PP (orc spec_MaskValues.id) rec k (lbody (sub spec_MaskValues.body [1, 1, 0, 1, 0]))) (kAt PP (orc spec_MaskValues.id) rec k spec_MaskValues.body [1, 1, 0, 1, 0] [] (K0 PP Go.Proofs.Try.f89)) n0 (St.of 29 [(0, .int .i64 x0), (3, .sl 1 x3), (4, .int .i64 x4)] []) H) : ∀ x0 x3 x4 H, spec_MaskValues.j4 rec k L0 x0 x3 x4 H = ex PP (orc spec_MaskValues.id) rec k (sub spec_MaskValues.body [1, 1, 0, 1, 0, 0, 1, 1]) (St.of 29 [(0, .int .i64 x0), (3, .sl 1 x3), (4, .int .i64 x4)] []) H (kAt PP (orc spec_MaskValues.id) rec k spec_MaskValues.body [1, 1, 0, 1, 0, 0, 1, 1] [n0] (K0 PP Go.Proofs.Try.f89)) := by
  intros x0 x3 x4 H
  unfold spec_MaskValues.j4
  try simp only [hL0, -eq_self]
  kernel_rfl
theorem spec_MaskValues.j2_eq (rec : Rec) (k : Nat) (n0 : Nat) (L0 : Int → Sl → Int → Hp → An) (hL0 : ∀ x0 x3 x4 H, L0 x0 x3 x4 H = iter ((orc spec_MaskValues.id).at (lbody (sub spec_MaskValues.body [1, 1, 0, 1, 0]))) (ex PP (orc spec_MaskValues.id) rec k (lbody (sub spec_MaskValues.body [1, 1, 0, 1, 0]))) (kAt PP (orc spec_MaskValues.id) rec k spec_MaskValues.body [1, 1, 0, 1, 0] [] (K0 PP Go.Proofs.Try.f89)) n0 (St.of 29 [(0, .int .i64 x0), (3, .sl 1 x3), (4, .int .i64 x4)] []) H) : ∀ x0 x3 x4 H, spec_MaskValues.j2 rec k L0 x0 x3 x4 H = ex PP (orc spec_MaskValues.id) rec k (sub spec_MaskValues.body [1, 1, 0, 1, 0, 0, 1]) (St.of 29 [(0, .int .i64 x0), (3, .sl 1 x3), (4, .int .i64 x4)] []) H (kAt PP (orc spec_MaskValues.id) rec k spec_MaskValues.body [1, 1, 0, 1, 0, 0, 1] [n0] (K0 PP Go.Proofs.Try.f89)) := by
  intros x0 x3 x4 H
  unfold spec_MaskValues.j2
  try simp only [hL0, spec_MaskValues.j4_eq rec k n0 L0 hL0, -eq_self]
  kernel_rfl
theorem spec_MaskValues.j1_eq (rec : Rec) (k : Nat) (n0 : Nat) (L0 : Int → Sl → Int → Hp → An) (hL0 : ∀ x0 x3 x4 H, L0 x0 x3 x4 H = iter ((orc spec_MaskValues.id).at (lbody (sub spec_MaskValues.body [1, 1, 0, 1, 0]))) (ex PP (orc spec_MaskValues.id) rec k (lbody (sub spec_MaskValues.body [1, 1, 0, 1, 0]))) (kAt PP (orc spec_MaskValues.id) rec k spec_MaskValues.body [1, 1, 0, 1, 0] [] (K0 PP Go.Proofs.Try.f89)) n0 (St.of 29 [(0, .int .i64 x0), (3, .sl 1 x3), (4, .int .i64 x4)] []) H) : ∀ x0 x3 x4 x16 H, spec_MaskValues.j1 rec k L0 x0 x3 x4 x16 H = ex PP (orc spec_MaskValues.id) rec k (sub spec_MaskValues.body [1, 1, 0, 1, 0, 0, 0, 1]) (St.of 29 [(0, .int .i64 x0), (3, .sl 1 x3), (4, .int .i64 x4), (16, .bool x16)] []) H (kAt PP (orc spec_MaskValues.id) rec k spec_MaskValues.body [1, 1, 0, 1, 0, 0, 0, 1] [n0] (K0 PP Go.Proofs.Try.f89)) := by
  intros x0 x3 x4 x16 H
  unfold spec_MaskValues.j1
  try simp only [hL0, spec_MaskValues.j2_eq rec k n0 L0 hL0, spec_MaskValues.j3_eq rec k, -eq_self]
  kernel_rfl
theorem spec_MaskValues.l0_eq (rec : Rec) (k : Nat) : ∀ n x0 x3 x4 H, spec_MaskValues.l0 rec k n x0 x3 x4 H = iter ((orc spec_MaskValues.id).at (lbody (sub spec_MaskValues.body [1, 1, 0, 1, 0]))) (ex PP (orc spec_MaskValues.id) rec k (lbody (sub spec_MaskValues.body [1, 1, 0, 1, 0]))) (kAt PP (orc spec_MaskValues.id) rec k spec_MaskValues.body [1, 1, 0, 1, 0] [] (K0 PP Go.Proofs.Try.f89)) n (St.of 29 [(0, .int .i64 x0), (3, .sl 1 x3), (4, .int .i64 x4)] []) H := by
  intro n
  induction n with
  | zero => intros; rfl
  | succ n ih =>
    intros x0 x3 x4 H
    simp only [spec_MaskValues.l0, spec_MaskValues.j1_eq rec k n (spec_MaskValues.l0 rec k n) (fun x0 x3 x4 H => ih x0 x3 x4 H), ih, -eq_self]
    kernel_rfl
theorem spec_MaskValues.f_eq (rec : Rec) (k : Nat) : ∀ a0 H, spec_MaskValues.f rec k a0 H = ex PP (orc spec_MaskValues.id) rec k spec_MaskValues.body (St.of 29 [(0, .int .i64 a0)] []) H (K0 PP Go.Proofs.Try.f89) := by
  intros a0 H
  unfold spec_MaskValues.f
  try simp only [spec_MaskValues.l0_eq rec k, -eq_self]
  kernel_rfl
theorem spec_MaskValues.call (k : Nat) : ∀ a0 H, callF PP orc (k + 1) spec_MaskValues.id [.int .i64 a0] H = spec_MaskValues.f (callF PP orc k) k a0 H := by
  intros a0 H
  rw [callF_at (fn := Go.Proofs.Try.f89) (c := spec_MaskValues.body) Go.Proofs.Try.func89 (by kernel_rfl) (Nat.le_of_ble_eq_true (by kernel_rfl)), spec_MaskValues.f_eq]
  kernel_rfl
noncomputable def spec_MasksValid.body : Code := (Go.Proofs.Try.f24).body.getD .skip
noncomputable def spec_MasksValid.j2 (rec : Rec) (k : Nat) (x0 : Sl) (x1 : Int) (H : Hp) : An := (rec spec_l1In.id [.int .i64 x1, .int .i64 2, .int .i64 4] H).bind fun r5 => r5.1.toB.bind fun b6 => bif b6 then some (.bool ((x0.len : Int) == (IntKind.i64.wrap (x1 * x1))), r5.2) else some (.bool false, r5.2)
noncomputable def spec_MasksValid.j3 (rec : Rec) (k : Nat) (L0 : Sl → Int → Int → Hp → An) (x0 : Sl) (x1 : Int) (x5 : Int) (H : Hp) : An := L0 x0 x1 (IntKind.i64.wrap (x5 + 1)) H
noncomputable def spec_MasksValid.j1 (rec : Rec) (k : Nat) (L0 : Sl → Int → Int → Hp → An) (x0 : Sl) (x1 : Int) (x5 : Int) (x30 : Bool) (H : Hp) : An := bif x30 then some (.bool false, H) else spec_MasksValid.j3 rec k L0 x0 x1 x5 H
noncomputable def spec_MasksValid.l0 (rec : Rec) (k : Nat) : Nat → Sl → Int → Int → Hp → An
  | 0, _, _, _, _ => none
  | n + 1, x0, x1, x5, H => bif decide (x5 < (x0.len : Int)) then bif decide (0 ≤ (x5 : Int)) && decide ((x5 : Int) < x0.len) then (ldI .i64 H x0.blk (x0.off + (x5 : Int).toNat * 1)).bind fun n1 => if (IntKind.i64.wrap ((IntKind.i64.wrap (((BitVec.ofInt IntKind.i64.bits x1 &&& BitVec.ofInt IntKind.i64.bits 7).toNat : Int))) + 1) : Int) < 0 then none else (rec spec_l1In.id [.int .i64 n1, .int .i64 0, .int .i64 (IntKind.i64.wrap ((IntKind.i64.wrap (1 * 2 ^ (min (IntKind.i64.wrap ((IntKind.i64.wrap (((BitVec.ofInt IntKind.i64.bits x1 &&& BitVec.ofInt IntKind.i64.bits 7).toNat : Int))) + 1) : Int).toNat IntKind.i64.bits))) - 2))] H).bind fun r2 => r2.1.toB.bind fun b3 => bif !b3 then spec_MasksValid.j1 rec k (spec_MasksValid.l0 rec k n) x0 x1 x5 true r2.2 else bif decide (0 ≤ (x5 : Int)) && decide ((x5 : Int) < x0.len) then (ldI .i64 r2.2 x0.blk (x0.off + (x5 : Int).toNat * 1)).bind fun n4 => spec_MasksValid.j1 rec k (spec_MasksValid.l0 rec k n) x0 x1 x5 (((n4 : Int).tmod 2) != 0) r2.2 else none else none else spec_MasksValid.j2 rec k x0 x1 H
noncomputable def spec_MasksValid.f (rec : Rec) (k : Nat) (a0 : Sl) (a1 : Int) (H : Hp) : An := spec_MasksValid.l0 rec k k a0 a1 0 H
theorem spec_MasksValid.j2_eq (rec : Rec) (k : Nat) : ∀ x0 x1 H, spec_MasksValid.j2 rec k x0 x1 H = ex PP (orc spec_MasksValid.id) rec k (sub spec_MasksValid.body [1, 1]) (St.of 41 [(0, .sl 1 x0), (1, .int .i64 x1)] []) H (kAt PP (orc spec_MasksValid.id) rec k spec_MasksValid.body [1, 1] [] (K0 PP Go.Proofs.Try.f24)) := by
  intros x0 x1 H
  unfold spec_MasksValid.j2
  kernel_rfl
theorem spec_MasksValid.j3_eq (rec : Rec) (k : Nat) (n0 : Nat) (L0 : Sl → Int → Int → Hp → An) (hL0 : ∀ x0 x1 x5 H, L0 x0 x1 x5 H = iter ((orc spec_MasksValid.id).at (lbody (sub spec_MasksValid.body [1, 0, 1, 0]))) (ex PP (orc spec_MasksValid.id) rec k (lbody (sub spec_MasksValid.body [1, 0, 1, 0]))) (kAt PP (orc spec_MasksValid.id) rec k spec_MasksValid.body [1, 0, 1, 0] [] (K0 PP Go.Proofs.Try.f24)) n0 (St.of 41 [(0, .sl 1 x0), (1, .int .i64 x1), (5, .int .i64 x5)] []) H) : ∀ x0 x1 x5 H, spec_MasksValid.j3 rec k L0 x0 x1 x5 H = ex PP (orc spec_MasksValid.id) rec k (sub spec_MasksValid.body [1, 0, 1, 0, 0, 1, 1]) (St.of 41 [(0, .sl 1 x0), (1, .int .i64 x1), (5, .int .i64 x5)] []) H (kAt PP (orc spec_MasksValid.id) rec k spec_MasksValid.body [1, 0, 1, 0, 0, 1, 1] [n0] (K0 PP Go.Proofs.Try.f24)) := by
  intros x0 x1 x5 H
  unfold spec_MasksValid.j3
  try simp only [hL0, -eq_self]
  kernel_rfl
theorem spec_MasksValid.j1_eq (rec : Rec) (k : Nat) (n0 : Nat) (L0 : Sl → Int → Int → Hp → An) (hL0 : ∀ x0 x1 x5 H, L0 x0 x1 x5 H = iter ((orc spec_MasksValid.id).at (lbody (sub spec_MasksValid.body [1, 0, 1, 0]))) (ex PP (orc spec_MasksValid.id) rec k (lbody (sub spec_MasksValid.body [1, 0, 1, 0]))) (kAt PP (orc spec_MasksValid.id) rec k spec_MasksValid.body [1, 0, 1, 0] [] (K0 PP Go.Proofs.Try.f24)) n0 (St.of 41 [(0, .sl 1 x0), (1, .int .i64 x1), (5, .int .i64 x5)] []) H) : ∀ x0 x1 x5 x30 H, spec_MasksValid.j1 rec k L0 x0 x1 x5 x30 H = ex PP (orc spec_MasksValid.id) rec k (sub spec_MasksValid.body [1, 0, 1, 0, 0, 1, 0, 0, 1]) (St.of 41 [(0, .sl 1 x0), (1, .int .i64 x1), (5, .int .i64 x5), (30, .bool x30)] []) H (kAt PP (orc spec_MasksValid.id) rec k spec_MasksValid.body [1, 0, 1, 0, 0, 1, 0, 0, 1] [n0] (K0 PP Go.Proofs.Try.f24)) := by
  intros x0 x1 x5 x30 H
  unfold spec_MasksValid.j1
  try simp only [hL0, spec_MasksValid.j3_eq rec k n0 L0 hL0, -eq_self]
  kernel_rfl
theorem spec_MasksValid.l0_eq (rec : Rec) (k : Nat) : ∀ n x0 x1 x5 H, spec_MasksValid.l0 rec k n x0 x1 x5 H = iter ((orc spec_MasksValid.id).at (lbody (sub spec_MasksValid.body [1, 0, 1, 0]))) (ex PP (orc spec_MasksValid.id) rec k (lbody (sub spec_MasksValid.body [1, 0, 1, 0]))) (kAt PP (orc spec_MasksValid.id) rec k spec_MasksValid.body [1, 0, 1, 0] [] (K0 PP Go.Proofs.Try.f24)) n (St.of 41 [(0, .sl 1 x0), (1, .int .i64 x1), (5, .int .i64 x5)] []) H := by
  intro n
  induction n with
  | zero => intros; rfl
  | succ n ih =>
    intros x0 x1 x5 H
    simp only [spec_MasksValid.l0, spec_MasksValid.j1_eq rec k n (spec_MasksValid.l0 rec k n) (fun x0 x1 x5 H => ih x0 x1 x5 H), spec_MasksValid.j2_eq rec k, ih, -eq_self]
    kernel_rfl
theorem spec_MasksValid.f_eq (rec : Rec) (k : Nat) : ∀ a0 a1 H, spec_MasksValid.f rec k a0 a1 H = ex PP (orc spec_MasksValid.id) rec k spec_MasksValid.body (St.of 41 [(0, .sl 1 a0), (1, .int .i64 a1)] []) H (K0 PP Go.Proofs.Try.f24) := by
  intros a0 a1 H
  unfold spec_MasksValid.f
  try simp only [spec_MasksValid.l0_eq rec k, -eq_self]
  kernel_rfl
theorem spec_MasksValid.call (k : Nat) : ∀ a0 a1 H, callF PP orc (k + 1) spec_MasksValid.id [.sl 1 a0, .int .i64 a1] H = spec_MasksValid.f (callF PP orc k) k a0 a1 H := by
  intros a0 a1 H
  rw [callF_at (fn := Go.Proofs.Try.f24) (c := spec_MasksValid.body) Go.Proofs.Try.func24 (by kernel_rfl) (Nat.le_of_ble_eq_true (by kernel_rfl)), spec_MasksValid.f_eq]
  kernel_rfl
noncomputable def spec_l4Holds.body : Code := (Go.Proofs.Try.f123).body.getD .skip
noncomputable def spec_l4Holds.j2 (rec : Rec) (k : Nat) (x1 : Sl) (x5 : Int) (x6 : Int) (x7 : Bool) (y2_0 : Int) (y2_1 : Sl) (y2_2 : Int) (H : Hp) : An := bif y2_0 == 1 then some (.bool x7, H) else bif y2_0 == 2 then some (.bool (x5 == y2_2), H) else bif y2_0 == 3 then some (.bool (x6 == y2_2), H) else bif y2_0 == 4 then bif decide (0 ≤ (0 : Int)) && decide ((0 : Int) < x1.len) then (ldI .i64 H x1.blk (x1.off + (0 : Int).toNat * 1)).bind fun n5 => bif decide (0 ≤ (1 : Int)) && decide ((1 : Int) < x1.len) then (ldI .i64 H x1.blk (x1.off + (1 : Int).toNat * 1)).bind fun n6 => some (.bool (decide (n5 < n6)), H) else none else none else bif decide (0 ≤ (0 : Int)) && decide ((0 : Int) < x1.len) then (ldI .i64 H x1.blk (x1.off + (0 : Int).toNat * 1)).bind fun n7 => bif decide (0 ≤ (1 : Int)) && decide ((1 : Int) < x1.len) then (ldI .i64 H x1.blk (x1.off + (1 : Int).toNat * 1)).bind fun n8 => some (.bool ((mx (IntKind.i64.wrap (n7 - n8)) (IntKind.i64.wrap (0 - (IntKind.i64.wrap (n7 - n8))))) == y2_2), H) else none else none
noncomputable def spec_l4Holds.j3 (rec : Rec) (k : Nat) (L0 : Sl → Int → Int → Bool → Int → Int → Sl → Int → Hp → An) (L1 : Sl → Int → Int → Bool → Int → Int → Int → Sl → Int → Hp → An) (x1 : Sl) (x5 : Int) (x6 : Int) (x7 : Bool) (x8 : Int) (x9 : Int) (y2_0 : Int) (y2_1 : Sl) (y2_2 : Int) (H : Hp) : An := L1 x1 x5 x6 x7 x8 (IntKind.i64.wrap (x9 + 1)) y2_0 y2_1 y2_2 H
noncomputable def spec_l4Holds.j4 (rec : Rec) (k : Nat) (L0 : Sl → Int → Int → Bool → Int → Int → Sl → Int → Hp → An) (x1 : Sl) (x5 : Int) (x6 : Int) (x7 : Bool) (x8 : Int) (y2_0 : Int) (y2_1 : Sl) (y2_2 : Int) (H : Hp) : An := L0 x1 x5 x6 x7 (IntKind.i64.wrap (x8 + 1)) y2_0 y2_1 y2_2 H
noncomputable def spec_l4Holds.l1 (rec : Rec) (k : Nat) (L0 : Sl → Int → Int → Bool → Int → Int → Sl → Int → Hp → An) : Nat → Sl → Int → Int → Bool → Int → Int → Int → Sl → Int → Hp → An
  | 0, _, _, _, _, _, _, _, _, _, _ => none
  | n + 1, x1, x5, x6, x7, x8, x9, y2_0, y2_1, y2_2, H => bif decide (x9 < x8) then bif x7 then bif decide (0 ≤ (x9 : Int)) && decide ((x9 : Int) < x1.len) then (ldI .i64 H x1.blk (x1.off + (x9 : Int).toNat * 1)).bind fun n3 => bif decide (0 ≤ (x8 : Int)) && decide ((x8 : Int) < x1.len) then (ldI .i64 H x1.blk (x1.off + (x8 : Int).toNat * 1)).bind fun n4 => spec_l4Holds.j3 rec k L0 (spec_l4Holds.l1 rec k L0 n) x1 x5 x6 (n3 != n4) x8 x9 y2_0 y2_1 y2_2 H else none else none else spec_l4Holds.j3 rec k L0 (spec_l4Holds.l1 rec k L0 n) x1 x5 x6 false x8 x9 y2_0 y2_1 y2_2 H else spec_l4Holds.j4 rec k L0 x1 x5 x6 x7 x8 y2_0 y2_1 y2_2 H
noncomputable def spec_l4Holds.l0 (rec : Rec) (k : Nat) : Nat → Sl → Int → Int → Bool → Int → Int → Sl → Int → Hp → An
  | 0, _, _, _, _, _, _, _, _, _ => none
  | n + 1, x1, x5, x6, x7, x8, y2_0, y2_1, y2_2, H => bif decide (x8 < (x1.len : Int)) then bif decide (0 ≤ (x8 : Int)) && decide ((x8 : Int) < x1.len) then (ldI .i64 H x1.blk (x1.off + (x8 : Int).toNat * 1)).bind fun n1 => bif decide (0 ≤ (x8 : Int)) && decide ((x8 : Int) < x1.len) then (ldI .i64 H x1.blk (x1.off + (x8 : Int).toNat * 1)).bind fun n2 => spec_l4Holds.l1 rec k (spec_l4Holds.l0 rec k n) k x1 (IntKind.i64.wrap (x5 + n1)) (IntKind.i64.wrap (x6 * n2)) x7 x8 0 y2_0 y2_1 y2_2 H else none else none else spec_l4Holds.j2 rec k x1 x5 x6 x7 y2_0 y2_1 y2_2 H
noncomputable def spec_l4Holds.f (rec : Rec) (k : Nat) (a0_0 : Int) (a0_1 : Sl) (a0_2 : Int) (a1 : Sl) (H : Hp) : An := spec_l4Holds.l0 rec k k a1 0 1 true 0 a0_0 a0_1 a0_2 H
theorem spec_l4Holds.j2_eq (rec : Rec) (k : Nat) : ∀ x1 x5 x6 x7 y2_0 y2_1 y2_2 H, spec_l4Holds.j2 rec k x1 x5 x6 x7 y2_0 y2_1 y2_2 H = ex PP (orc spec_l4Holds.id) rec k (sub spec_l4Holds.body [1, 1, 1, 1, 1]) (St.of 86 [(1, .sl 1 x1), (2, .lp 2 0), (5, .int .i64 x5), (6, .int .i64 x6), (7, .bool x7)] [(2, [.int .i64 y2_0, .sl 1 y2_1, .int .i64 y2_2])]) H (kAt PP (orc spec_l4Holds.id) rec k spec_l4Holds.body [1, 1, 1, 1, 1] [] (K0 PP Go.Proofs.Try.f123)) := by
  intros x1 x5 x6 x7 y2_0 y2_1 y2_2 H
  unfold spec_l4Holds.j2
  kernel_rfl
theorem spec_l4Holds.j3_eq (rec : Rec) (k : Nat) (n0 : Nat) (L0 : Sl → Int → Int → Bool → Int → Int → Sl → Int → Hp → An) (hL0 : ∀ x1 x5 x6 x7 x8 y2_0 y2_1 y2_2 H, L0 x1 x5 x6 x7 x8 y2_0 y2_1 y2_2 H = iter ((orc spec_l4Holds.id).at (lbody (sub spec_l4Holds.body [1, 1, 1, 1, 0, 1, 0]))) (ex PP (orc spec_l4Holds.id) rec k (lbody (sub spec_l4Holds.body [1, 1, 1, 1, 0, 1, 0]))) (kAt PP (orc spec_l4Holds.id) rec k spec_l4Holds.body [1, 1, 1, 1, 0, 1, 0] [] (K0 PP Go.Proofs.Try.f123)) n0 (St.of 86 [(1, .sl 1 x1), (2, .lp 2 0), (5, .int .i64 x5), (6, .int .i64 x6), (7, .bool x7), (8, .int .i64 x8)] [(2, [.int .i64 y2_0, .sl 1 y2_1, .int .i64 y2_2])]) H) (n1 : Nat) (L1 : Sl → Int → Int → Bool → Int → Int → Int → Sl → Int → Hp → An) (hL1 : ∀ x1 x5 x6 x7 x8 x9 y2_0 y2_1 y2_2 H, L1 x1 x5 x6 x7 x8 x9 y2_0 y2_1 y2_2 H = iter ((orc spec_l4Holds.id).at (lbody (sub spec_l4Holds.body [1, 1, 1, 1, 0, 1, 0, 0, 1, 0, 0, 1, 1, 1, 0]))) (ex PP (orc spec_l4Holds.id) rec k (lbody (sub spec_l4Holds.body [1, 1, 1, 1, 0, 1, 0, 0, 1, 0, 0, 1, 1, 1, 0]))) (kAt PP (orc spec_l4Holds.id) rec k spec_l4Holds.body [1, 1, 1, 1, 0, 1, 0, 0, 1, 0, 0, 1, 1, 1, 0] [n0] (K0 PP Go.Proofs.Try.f123)) n1 (St.of 86 [(1, .sl 1 x1), (2, .lp 2 0), (5, .int .i64 x5), (6, .int .i64 x6), (7, .bool x7), (8, .int .i64 x8), (9, .int .i64 x9)] [(2, [.int .i64 y2_0, .sl 1 y2_1, .int .i64 y2_2])]) H) : ∀ x1 x5 x6 x7 x8 x9 y2_0 y2_1 y2_2 H, spec_l4Holds.j3 rec k L0 L1 x1 x5 x6 x7 x8 x9 y2_0 y2_1 y2_2 H = ex PP (orc spec_l4Holds.id) rec k (sub spec_l4Holds.body [1, 1, 1, 1, 0, 1, 0, 0, 1, 0, 0, 1, 1, 1, 0, 0, 1, 1]) (St.of 86 [(1, .sl 1 x1), (2, .lp 2 0), (5, .int .i64 x5), (6, .int .i64 x6), (7, .bool x7), (8, .int .i64 x8), (9, .int .i64 x9)] [(2, [.int .i64 y2_0, .sl 1 y2_1, .int .i64 y2_2])]) H (kAt PP (orc spec_l4Holds.id) rec k spec_l4Holds.body [1, 1, 1, 1, 0, 1, 0, 0, 1, 0, 0, 1, 1, 1, 0, 0, 1, 1] [n0, n1] (K0 PP Go.Proofs.Try.f123)) := by
  intros x1 x5 x6 x7 x8 x9 y2_0 y2_1 y2_2 H
  unfold spec_l4Holds.j3
  try simp only [hL0, hL1, -eq_self]
  kernel_rfl
theorem spec_l4Holds.j4_eq (rec : Rec) (k : Nat) (n0 : Nat) (L0 : Sl → Int → Int → Bool → Int → Int → Sl → Int → Hp → An) (hL0 : ∀ x1 x5 x6 x7 x8 y2_0 y2_1 y2_2 H, L0 x1 x5 x6 x7 x8 y2_0 y2_1 y2_2 H = iter ((orc spec_l4Holds.id).at (lbody (sub spec_l4Holds.body [1, 1, 1, 1, 0, 1, 0]))) (ex PP (orc spec_l4Holds.id) rec k (lbody (sub spec_l4Holds.body [1, 1, 1, 1, 0, 1, 0]))) (kAt PP (orc spec_l4Holds.id) rec k spec_l4Holds.body [1, 1, 1, 1, 0, 1, 0] [] (K0 PP Go.Proofs.Try.f123)) n0 (St.of 86 [(1, .sl 1 x1), (2, .lp 2 0), (5, .int .i64 x5), (6, .int .i64 x6), (7, .bool x7), (8, .int .i64 x8)] [(2, [.int .i64 y2_0, .sl 1 y2_1, .int .i64 y2_2])]) H) : ∀ x1 x5 x6 x7 x8 y2_0 y2_1 y2_2 H, spec_l4Holds.j4 rec k L0 x1 x5 x6 x7 x8 y2_0 y2_1 y2_2 H = ex PP (orc spec_l4Holds.id) rec k (sub spec_l4Holds.body [1, 1, 1, 1, 0, 1, 0, 0, 1, 1]) (St.of 86 [(1, .sl 1 x1), (2, .lp 2 0), (5, .int .i64 x5), (6, .int .i64 x6), (7, .bool x7), (8, .int .i64 x8)] [(2, [.int .i64 y2_0, .sl 1 y2_1, .int .i64 y2_2])]) H (kAt PP (orc spec_l4Holds.id) rec k spec_l4Holds.body [1, 1, 1, 1, 0, 1, 0, 0, 1, 1] [n0] (K0 PP Go.Proofs.Try.f123)) := by
  intros x1 x5 x6 x7 x8 y2_0 y2_1 y2_2 H
  unfold spec_l4Holds.j4
  try simp only [hL0, -eq_self]
  kernel_rfl
theorem spec_l4Holds.l1_eq (rec : Rec) (k : Nat) (n0 : Nat) (L0 : Sl → Int → Int → Bool → Int → Int → Sl → Int → Hp → An) (hL0 : ∀ x1 x5 x6 x7 x8 y2_0 y2_1 y2_2 H, L0 x1 x5 x6 x7 x8 y2_0 y2_1 y2_2 H = iter ((orc spec_l4Holds.id).at (lbody (sub spec_l4Holds.body [1, 1, 1, 1, 0, 1, 0]))) (ex PP (orc spec_l4Holds.id) rec k (lbody (sub spec_l4Holds.body [1, 1, 1, 1, 0, 1, 0]))) (kAt PP (orc spec_l4Holds.id) rec k spec_l4Holds.body [1, 1, 1, 1, 0, 1, 0] [] (K0 PP Go.Proofs.Try.f123)) n0 (St.of 86 [(1, .sl 1 x1), (2, .lp 2 0), (5, .int .i64 x5), (6, .int .i64 x6), (7, .bool x7), (8, .int .i64 x8)] [(2, [.int .i64 y2_0, .sl 1 y2_1, .int .i64 y2_2])]) H) : ∀ n x1 x5 x6 x7 x8 x9 y2_0 y2_1 y2_2 H, spec_l4Holds.l1 rec k L0 n x1 x5 x6 x7 x8 x9 y2_0 y2_1 y2_2 H = iter ((orc spec_l4Holds.id).at (lbody (sub spec_l4Holds.body [1, 1, 1, 1, 0, 1, 0, 0, 1, 0, 0, 1, 1, 1, 0]))) (ex PP (orc spec_l4Holds.id) rec k (lbody (sub spec_l4Holds.body [1, 1, 1, 1, 0, 1, 0, 0, 1, 0, 0, 1, 1, 1, 0]))) (kAt PP (orc spec_l4Holds.id) rec k spec_l4Holds.body [1, 1, 1, 1, 0, 1, 0, 0, 1, 0, 0, 1, 1, 1, 0] [n0] (K0 PP Go.Proofs.Try.f123)) n (St.of 86 [(1, .sl 1 x1), (2, .lp 2 0), (5, .int .i64 x5), (6, .int .i64 x6), (7, .bool x7), (8, .int .i64 x8), (9, .int .i64 x9)] [(2, [.int .i64 y2_0, .sl 1 y2_1, .int .i64 y2_2])]) H := by
  intro n
  induction n with
  | zero => intros; rfl
  | succ n ih =>
    intros x1 x5 x6 x7 x8 x9 y2_0 y2_1 y2_2 H
    simp only [spec_l4Holds.l1, hL0, spec_l4Holds.j3_eq rec k n0 L0 hL0 n (spec_l4Holds.l1 rec k L0 n) (fun x1 x5 x6 x7 x8 x9 y2_0 y2_1 y2_2 H => ih x1 x5 x6 x7 x8 x9 y2_0 y2_1 y2_2 H), spec_l4Holds.j4_eq rec k n0 L0 hL0, ih, -eq_self]
    kernel_rfl
theorem spec_l4Holds.l0_eq (rec : Rec) (k : Nat) : ∀ n x1 x5 x6 x7 x8 y2_0 y2_1 y2_2 H, spec_l4Holds.l0 rec k n x1 x5 x6 x7 x8 y2_0 y2_1 y2_2 H = iter ((orc spec_l4Holds.id).at (lbody (sub spec_l4Holds.body [1, 1, 1, 1, 0, 1, 0]))) (ex PP (orc spec_l4Holds.id) rec k (lbody (sub spec_l4Holds.body [1, 1, 1, 1, 0, 1, 0]))) (kAt PP (orc spec_l4Holds.id) rec k spec_l4Holds.body [1, 1, 1, 1, 0, 1, 0] [] (K0 PP Go.Proofs.Try.f123)) n (St.of 86 [(1, .sl 1 x1), (2, .lp 2 0), (5, .int .i64 x5), (6, .int .i64 x6), (7, .bool x7), (8, .int .i64 x8)] [(2, [.int .i64 y2_0, .sl 1 y2_1, .int .i64 y2_2])]) H := by
  intro n
  induction n with
  | zero => intros; rfl
  | succ n ih =>
    intros x1 x5 x6 x7 x8 y2_0 y2_1 y2_2 H
    simp only [spec_l4Holds.l0, spec_l4Holds.l1_eq rec k n (spec_l4Holds.l0 rec k n) (fun x1 x5 x6 x7 x8 y2_0 y2_1 y2_2 H => ih x1 x5 x6 x7 x8 y2_0 y2_1 y2_2 H), spec_l4Holds.j2_eq rec k, ih, -eq_self]
    kernel_rfl
theorem spec_l4Holds.f_eq (rec : Rec) (k : Nat) : ∀ a0_0 a0_1 a0_2 a1 H, spec_l4Holds.f rec k a0_0 a0_1 a0_2 a1 H = ex PP (orc spec_l4Holds.id) rec k spec_l4Holds.body (St.of 86 [(0, .agg [.int .i64 a0_0, .sl 1 a0_1, .int .i64 a0_2]), (1, .sl 1 a1)] []) H (K0 PP Go.Proofs.Try.f123) := by
  intros a0_0 a0_1 a0_2 a1 H
  unfold spec_l4Holds.f
  try simp only [spec_l4Holds.l0_eq rec k, -eq_self]
  kernel_rfl
theorem spec_l4Holds.call (k : Nat) : ∀ a0_0 a0_1 a0_2 a1 H, callF PP orc (k + 1) spec_l4Holds.id [.agg [.int .i64 a0_0, .sl 1 a0_1, .int .i64 a0_2], .sl 1 a1] H = spec_l4Holds.f (callF PP orc k) k a0_0 a0_1 a0_2 a1 H := by
  intros a0_0 a0_1 a0_2 a1 H
  rw [callF_at (fn := Go.Proofs.Try.f123) (c := spec_l4Holds.body) Go.Proofs.Try.func123 (by kernel_rfl) (Nat.le_of_ble_eq_true (by kernel_rfl)), spec_l4Holds.f_eq]
  kernel_rfl
end Go.Proofs.Ytjojhbdghhmeeaa.Rp
