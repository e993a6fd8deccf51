/- Functions of the program as plain Lean functions. No conditions. -/
import Derived.Test.YtncmneliinbjdaaAb
import Derived.Test.YtncmneliinbjdaaOr
set_option linter.unusedVariables false
set_option linter.unusedSimpArgs false
set_option maxRecDepth 100000
namespace Go.Proofs.Ytncmneliinbjdaa.Rp
open Go Go.Proofs.Ytncmneliinbjdaa.Ab
noncomputable def impl_RegionsValid.body : Code := (Go.Proofs.Try.f53).body.getD .skip
def impl_RegionsValid.j4 (rec : Rec) (k : Nat) (L2 : Int → Sl → Int → Int → Hp → An) (x1 : Int) (x18 : Sl) (x19 : Int) (x20 : Int) (H : Hp) : An := L2 x1 x18 x19 (IntKind.i64.wrap (x20 + 1)) H
def impl_RegionsValid.j3 (rec : Rec) (k : Nat) (L2 : Int → Sl → Int → Int → Hp → An) (x1 : Int) (x18 : Sl) (x19 : Int) (x20 : Int) (x30 : Bool) (H : Hp) : An := bif x30 then some (.bool false, H) else impl_RegionsValid.j4 rec k L2 x1 x18 x19 x20 H
def impl_RegionsValid.l2 (rec : Rec) (k : Nat) : Nat → Int → Sl → Int → Int → Hp → An
  | 0, _, _, _, _, _ => none
  | n + 1, x1, x18, x19, x20, H => bif decide (x20 < x19) then bif decide (0 ≤ (x20 : Int)) && decide ((x20 : Int) < x18.len) then (ldI .i64 H x18.blk (x18.off + (x20 : Int).toNat * 1)).bind fun n3 => bif decide (n3 < 0) then impl_RegionsValid.j3 rec k (impl_RegionsValid.l2 rec k n) x1 x18 x19 x20 true H else impl_RegionsValid.j3 rec k (impl_RegionsValid.l2 rec k n) x1 x18 x19 x20 (decide (n3 ≥ x1)) H else none else some (.bool true, H)
def impl_RegionsValid.j1 (rec : Rec) (k : Nat) (x0 : Sl) (x1 : Int) (H : Hp) : An := impl_RegionsValid.l2 rec k k x1 x0 (x0.len : Int) 0 H
def impl_RegionsValid.j0 (rec : Rec) (k : Nat) (x0 : Sl) (x1 : Int) (x17 : Bool) (H : Hp) : An := bif x17 then some (.bool false, H) else impl_RegionsValid.j1 rec k x0 x1 H
def impl_RegionsValid.f (rec : Rec) (k : Nat) (a0 : Sl) (a1 : Int) (H : Hp) : An := (rec impl_sizeOk.id [.int .i64 a1] H).bind fun r1 => r1.1.toB.bind fun b2 => bif !b2 then impl_RegionsValid.j0 rec k a0 a1 true r1.2 else impl_RegionsValid.j0 rec k a0 a1 ((a0.len : Int) != (IntKind.i64.wrap (a1 * a1))) r1.2
theorem impl_RegionsValid.j4_eq (rec : Rec) (k : Nat) (n2 : Nat) (L2 : Int → Sl → Int → Int → Hp → An) (hL2 : ∀ x1 x18 x19 x20 H, L2 x1 x18 x19 x20 H = iter ((orc impl_RegionsValid.id).at (lbody (sub impl_RegionsValid.body [1, 1, 0, 1, 0]))) (ex PP (orc impl_RegionsValid.id) rec k (lbody (sub impl_RegionsValid.body [1, 1, 0, 1, 0]))) (kAt PP (orc impl_RegionsValid.id) rec k impl_RegionsValid.body [1, 1, 0, 1, 0] [] (K0 PP Go.Proofs.Try.f53)) n2 (St.of 32 [(1, .int .i64 x1), (18, .sl 1 x18), (19, .int .i64 x19), (20, .int .i64 x20)] []) H) : ∀ x1 x18 x19 x20 H, impl_RegionsValid.j4 rec k L2 x1 x18 x19 x20 H = ex PP (orc impl_RegionsValid.id) rec k (sub impl_RegionsValid.body [1, 1, 0, 1, 0, 0, 1, 1, 1]) (St.of 32 [(1, .int .i64 x1), (18, .sl 1 x18), (19, .int .i64 x19), (20, .int .i64 x20)] []) H (kAt PP (orc impl_RegionsValid.id) rec k impl_RegionsValid.body [1, 1, 0, 1, 0, 0, 1, 1, 1] [n2] (K0 PP Go.Proofs.Try.f53)) := by
  intros x1 x18 x19 x20 H
  unfold impl_RegionsValid.j4
  try simp only [hL2]
  kernel_rfl
theorem impl_RegionsValid.j3_eq (rec : Rec) (k : Nat) (n2 : Nat) (L2 : Int → Sl → Int → Int → Hp → An) (hL2 : ∀ x1 x18 x19 x20 H, L2 x1 x18 x19 x20 H = iter ((orc impl_RegionsValid.id).at (lbody (sub impl_RegionsValid.body [1, 1, 0, 1, 0]))) (ex PP (orc impl_RegionsValid.id) rec k (lbody (sub impl_RegionsValid.body [1, 1, 0, 1, 0]))) (kAt PP (orc impl_RegionsValid.id) rec k impl_RegionsValid.body [1, 1, 0, 1, 0] [] (K0 PP Go.Proofs.Try.f53)) n2 (St.of 32 [(1, .int .i64 x1), (18, .sl 1 x18), (19, .int .i64 x19), (20, .int .i64 x20)] []) H) : ∀ x1 x18 x19 x20 x30 H, impl_RegionsValid.j3 rec k L2 x1 x18 x19 x20 x30 H = ex PP (orc impl_RegionsValid.id) rec k (sub impl_RegionsValid.body [1, 1, 0, 1, 0, 0, 1, 1, 0, 0, 1, 1]) (St.of 32 [(1, .int .i64 x1), (18, .sl 1 x18), (19, .int .i64 x19), (20, .int .i64 x20), (30, .bool x30)] []) H (kAt PP (orc impl_RegionsValid.id) rec k impl_RegionsValid.body [1, 1, 0, 1, 0, 0, 1, 1, 0, 0, 1, 1] [n2] (K0 PP Go.Proofs.Try.f53)) := by
  intros x1 x18 x19 x20 x30 H
  unfold impl_RegionsValid.j3
  try simp only [hL2, impl_RegionsValid.j4_eq rec k n2 L2 hL2]
  kernel_rfl
theorem impl_RegionsValid.l2_eq (rec : Rec) (k : Nat) : ∀ n x1 x18 x19 x20 H, impl_RegionsValid.l2 rec k n x1 x18 x19 x20 H = iter ((orc impl_RegionsValid.id).at (lbody (sub impl_RegionsValid.body [1, 1, 0, 1, 0]))) (ex PP (orc impl_RegionsValid.id) rec k (lbody (sub impl_RegionsValid.body [1, 1, 0, 1, 0]))) (kAt PP (orc impl_RegionsValid.id) rec k impl_RegionsValid.body [1, 1, 0, 1, 0] [] (K0 PP Go.Proofs.Try.f53)) n (St.of 32 [(1, .int .i64 x1), (18, .sl 1 x18), (19, .int .i64 x19), (20, .int .i64 x20)] []) H := by
  intro n
  induction n with
  | zero => intros; rfl
  | succ n ih =>
    intros x1 x18 x19 x20 H
    simp only [impl_RegionsValid.l2, impl_RegionsValid.j3_eq rec k n (impl_RegionsValid.l2 rec k n) (fun x1 x18 x19 x20 H => ih x1 x18 x19 x20 H), ih]
    kernel_rfl
theorem impl_RegionsValid.j1_eq (rec : Rec) (k : Nat) : ∀ x0 x1 H, impl_RegionsValid.j1 rec k x0 x1 H = ex PP (orc impl_RegionsValid.id) rec k (sub impl_RegionsValid.body [1, 1]) (St.of 32 [(0, .sl 1 x0), (1, .int .i64 x1)] []) H (kAt PP (orc impl_RegionsValid.id) rec k impl_RegionsValid.body [1, 1] [] (K0 PP Go.Proofs.Try.f53)) := by
  intros x0 x1 H
  unfold impl_RegionsValid.j1
  try simp only [impl_RegionsValid.l2_eq rec k]
  kernel_rfl
theorem impl_RegionsValid.j0_eq (rec : Rec) (k : Nat) : ∀ x0 x1 x17 H, impl_RegionsValid.j0 rec k x0 x1 x17 H = ex PP (orc impl_RegionsValid.id) rec k (sub impl_RegionsValid.body [1, 0, 1]) (St.of 32 [(0, .sl 1 x0), (1, .int .i64 x1), (17, .bool x17)] []) H (kAt PP (orc impl_RegionsValid.id) rec k impl_RegionsValid.body [1, 0, 1] [] (K0 PP Go.Proofs.Try.f53)) := by
  intros x0 x1 x17 H
  unfold impl_RegionsValid.j0
  try simp only [impl_RegionsValid.j1_eq rec k]
  kernel_rfl
theorem impl_RegionsValid.f_eq (rec : Rec) (k : Nat) : ∀ a0 a1 H, impl_RegionsValid.f rec k a0 a1 H = ex PP (orc impl_RegionsValid.id) rec k impl_RegionsValid.body (St.of 32 [(0, .sl 1 a0), (1, .int .i64 a1)] []) H (K0 PP Go.Proofs.Try.f53) := by
  intros a0 a1 H
  unfold impl_RegionsValid.f
  try simp only [impl_RegionsValid.j0_eq rec k]
  kernel_rfl
theorem impl_RegionsValid.call (k : Nat) : ∀ a0 a1 H, callF PP orc (k + 1) impl_RegionsValid.id [.sl 1 a0, .int .i64 a1] H = impl_RegionsValid.f (callF PP orc k) k a0 a1 H := by
  intros a0 a1 H
  rw [callF_at (fn := Go.Proofs.Try.f53) (c := impl_RegionsValid.body) Go.Proofs.Try.func53 (by kernel_rfl) (Nat.le_of_ble_eq_true (by kernel_rfl)), impl_RegionsValid.f_eq]
  kernel_rfl
noncomputable def spec_RegionsValid.body : Code := (Go.Proofs.Try.f51).body.getD .skip
def spec_RegionsValid.j1 (rec : Rec) (k : Nat) (x0 : Sl) (x1 : Int) (H : Hp) : An := (rec spec_l1In.id [.int .i64 x1, .int .i64 2, .int .i64 4] H).bind fun r4 => r4.1.toB.bind fun b5 => bif b5 then some (.bool ((x0.len : Int) == (IntKind.i64.wrap (x1 * x1))), r4.2) else some (.bool false, r4.2)
def spec_RegionsValid.l0 (rec : Rec) (k : Nat) : Nat → Sl → Int → Int → Hp → An
  | 0, _, _, _, _ => none
  | n + 1, x0, x1, x5, H => bif decide (x5 < (x0.len : Int)) then bif decide (0 ≤ (x5 : Int)) && decide ((x5 : Int) < x0.len) then (ldI .i64 H x0.blk (x0.off + (x5 : Int).toNat * 1)).bind fun n1 => (rec spec_l1In.id [.int .i64 n1, .int .i64 0, .int .i64 (IntKind.i64.wrap (x1 - 1))] H).bind fun r2 => r2.1.toB.bind fun b3 => bif !b3 then some (.bool false, r2.2) else (spec_RegionsValid.l0 rec k n) x0 x1 (IntKind.i64.wrap (x5 + 1)) r2.2 else none else spec_RegionsValid.j1 rec k x0 x1 H
def spec_RegionsValid.f (rec : Rec) (k : Nat) (a0 : Sl) (a1 : Int) (H : Hp) : An := spec_RegionsValid.l0 rec k k a0 a1 0 H
theorem spec_RegionsValid.j1_eq (rec : Rec) (k : Nat) : ∀ x0 x1 H, spec_RegionsValid.j1 rec k x0 x1 H = ex PP (orc spec_RegionsValid.id) rec k (sub spec_RegionsValid.body [1, 1]) (St.of 30 [(0, .sl 1 x0), (1, .int .i64 x1)] []) H (kAt PP (orc spec_RegionsValid.id) rec k spec_RegionsValid.body [1, 1] [] (K0 PP Go.Proofs.Try.f51)) := by
  intros x0 x1 H
  unfold spec_RegionsValid.j1
  kernel_rfl
theorem spec_RegionsValid.l0_eq (rec : Rec) (k : Nat) : ∀ n x0 x1 x5 H, spec_RegionsValid.l0 rec k n x0 x1 x5 H = iter ((orc spec_RegionsValid.id).at (lbody (sub spec_RegionsValid.body [1, 0, 1, 0]))) (ex PP (orc spec_RegionsValid.id) rec k (lbody (sub spec_RegionsValid.body [1, 0, 1, 0]))) (kAt PP (orc spec_RegionsValid.id) rec k spec_RegionsValid.body [1, 0, 1, 0] [] (K0 PP Go.Proofs.Try.f51)) n (St.of 30 [(0, .sl 1 x0), (1, .int .i64 x1), (5, .int .i64 x5)] []) H := by
  intro n
  induction n with
  | zero => intros; rfl
  | succ n ih =>
    intros x0 x1 x5 H
    simp only [spec_RegionsValid.l0, spec_RegionsValid.j1_eq rec k, ih]
    kernel_rfl
theorem spec_RegionsValid.f_eq (rec : Rec) (k : Nat) : ∀ a0 a1 H, spec_RegionsValid.f rec k a0 a1 H = ex PP (orc spec_RegionsValid.id) rec k spec_RegionsValid.body (St.of 30 [(0, .sl 1 a0), (1, .int .i64 a1)] []) H (K0 PP Go.Proofs.Try.f51) := by
  intros a0 a1 H
  unfold spec_RegionsValid.f
  try simp only [spec_RegionsValid.l0_eq rec k]
  kernel_rfl
theorem spec_RegionsValid.call (k : Nat) : ∀ a0 a1 H, callF PP orc (k + 1) spec_RegionsValid.id [.sl 1 a0, .int .i64 a1] H = spec_RegionsValid.f (callF PP orc k) k a0 a1 H := by
  intros a0 a1 H
  rw [callF_at (fn := Go.Proofs.Try.f51) (c := spec_RegionsValid.body) Go.Proofs.Try.func51 (by kernel_rfl) (Nat.le_of_ble_eq_true (by kernel_rfl)), spec_RegionsValid.f_eq]
  kernel_rfl
noncomputable def impl_RegionCells.body : Code := (Go.Proofs.Try.f54).body.getD .skip
def impl_RegionCells.j3 (rec : Rec) (k : Nat) (L2 : Int → Sl → Sl → Int → Int → Hp → An) (x2 : Int) (x7 : Sl) (x24 : Sl) (x25 : Int) (x26 : Int) (H : Hp) : An := L2 x2 x7 x24 x25 (IntKind.i64.wrap (x26 + 1)) H
def impl_RegionCells.j4 (rec : Rec) (k : Nat) (x7 : Sl) (H : Hp) : An := some (.sl 1 x7, H)
def impl_RegionCells.l2 (rec : Rec) (k : Nat) : Nat → Int → Sl → Sl → Int → Int → Hp → An
  | 0, _, _, _, _, _, _ => none
  | n + 1, x2, x7, x24, x25, x26, H => bif decide (x26 < x25) then bif decide (0 ≤ (x26 : Int)) && decide ((x26 : Int) < x24.len) then (ldI .i64 H x24.blk (x24.off + (x26 : Int).toNat * 1)).bind fun n3 => bif n3 == x2 then (H.app 1 x7 1 [.int .i64 x26]).bind fun a4 => impl_RegionCells.j3 rec k (impl_RegionCells.l2 rec k n) x2 a4.1 x24 x25 x26 a4.2 else impl_RegionCells.j3 rec k (impl_RegionCells.l2 rec k n) x2 x7 x24 x25 x26 H else none else impl_RegionCells.j4 rec k x7 H
def impl_RegionCells.j1 (rec : Rec) (k : Nat) (x0 : Sl) (x2 : Int) (H : Hp) : An := impl_RegionCells.l2 rec k k x2 (Sl.mk false H.length 0 0) x0 (x0.len : Int) 0 (H ++ [some (Blk.mk false [])])
def impl_RegionCells.j0 (rec : Rec) (k : Nat) (x0 : Sl) (x2 : Int) (x22 : Bool) (H : Hp) : An := bif x22 then some (.sl 1 Sl.none, H) else impl_RegionCells.j1 rec k x0 x2 H
def impl_RegionCells.f (rec : Rec) (k : Nat) (a0 : Sl) (a1 : Int) (a2 : Int) (H : Hp) : An := (rec impl_RegionsValid.id [.sl 1 a0, .int .i64 a1] H).bind fun r1 => r1.1.toB.bind fun b2 => bif !b2 then impl_RegionCells.j0 rec k a0 a2 true r1.2 else bif decide (a2 < 0) then impl_RegionCells.j0 rec k a0 a2 true r1.2 else impl_RegionCells.j0 rec k a0 a2 (decide (a2 ≥ a1)) r1.2
theorem impl_RegionCells.j3_eq (rec : Rec) (k : Nat) (n2 : Nat) (L2 : Int → Sl → Sl → Int → Int → Hp → An) (hL2 : ∀ x2 x7 x24 x25 x26 H, L2 x2 x7 x24 x25 x26 H = iter ((orc impl_RegionCells.id).at (lbody (sub impl_RegionCells.body [1, 1, 1, 0, 1, 0]))) (ex PP (orc impl_RegionCells.id) rec k (lbody (sub impl_RegionCells.body [1, 1, 1, 0, 1, 0]))) (kAt PP (orc impl_RegionCells.id) rec k impl_RegionCells.body [1, 1, 1, 0, 1, 0] [] (K0 PP Go.Proofs.Try.f54)) n2 (St.of 40 [(2, .int .i64 x2), (7, .sl 1 x7), (24, .sl 1 x24), (25, .int .i64 x25), (26, .int .i64 x26)] []) H) : ∀ x2 x7 x24 x25 x26 H, impl_RegionCells.j3 rec k L2 x2 x7 x24 x25 x26 H = ex PP (orc impl_RegionCells.id) rec k (sub impl_RegionCells.body [1, 1, 1, 0, 1, 0, 0, 1, 1, 1]) (St.of 40 [(2, .int .i64 x2), (7, .sl 1 x7), (24, .sl 1 x24), (25, .int .i64 x25), (26, .int .i64 x26)] []) H (kAt PP (orc impl_RegionCells.id) rec k impl_RegionCells.body [1, 1, 1, 0, 1, 0, 0, 1, 1, 1] [n2] (K0 PP Go.Proofs.Try.f54)) := by
  intros x2 x7 x24 x25 x26 H
  unfold impl_RegionCells.j3
  try simp only [hL2]
  kernel_rfl
theorem impl_RegionCells.j4_eq (rec : Rec) (k : Nat) : ∀ x7 H, impl_RegionCells.j4 rec k x7 H = ex PP (orc impl_RegionCells.id) rec k (sub impl_RegionCells.body [1, 1, 1, 1]) (St.of 40 [(7, .sl 1 x7)] []) H (kAt PP (orc impl_RegionCells.id) rec k impl_RegionCells.body [1, 1, 1, 1] [] (K0 PP Go.Proofs.Try.f54)) := by
  intros x7 H
  unfold impl_RegionCells.j4
  kernel_rfl
theorem impl_RegionCells.l2_eq (rec : Rec) (k : Nat) : ∀ n x2 x7 x24 x25 x26 H, impl_RegionCells.l2 rec k n x2 x7 x24 x25 x26 H = iter ((orc impl_RegionCells.id).at (lbody (sub impl_RegionCells.body [1, 1, 1, 0, 1, 0]))) (ex PP (orc impl_RegionCells.id) rec k (lbody (sub impl_RegionCells.body [1, 1, 1, 0, 1, 0]))) (kAt PP (orc impl_RegionCells.id) rec k impl_RegionCells.body [1, 1, 1, 0, 1, 0] [] (K0 PP Go.Proofs.Try.f54)) n (St.of 40 [(2, .int .i64 x2), (7, .sl 1 x7), (24, .sl 1 x24), (25, .int .i64 x25), (26, .int .i64 x26)] []) H := by
  intro n
  induction n with
  | zero => intros; rfl
  | succ n ih =>
    intros x2 x7 x24 x25 x26 H
    simp only [impl_RegionCells.l2, impl_RegionCells.j3_eq rec k n (impl_RegionCells.l2 rec k n) (fun x2 x7 x24 x25 x26 H => ih x2 x7 x24 x25 x26 H), impl_RegionCells.j4_eq rec k, ih]
    kernel_rfl
theorem impl_RegionCells.j1_eq (rec : Rec) (k : Nat) : ∀ x0 x2 H, impl_RegionCells.j1 rec k x0 x2 H = ex PP (orc impl_RegionCells.id) rec k (sub impl_RegionCells.body [1, 1]) (St.of 40 [(0, .sl 1 x0), (2, .int .i64 x2)] []) H (kAt PP (orc impl_RegionCells.id) rec k impl_RegionCells.body [1, 1] [] (K0 PP Go.Proofs.Try.f54)) := by
  intros x0 x2 H
  unfold impl_RegionCells.j1
  try simp only [impl_RegionCells.l2_eq rec k]
  kernel_rfl
theorem impl_RegionCells.j0_eq (rec : Rec) (k : Nat) : ∀ x0 x2 x22 H, impl_RegionCells.j0 rec k x0 x2 x22 H = ex PP (orc impl_RegionCells.id) rec k (sub impl_RegionCells.body [1, 0, 1]) (St.of 40 [(0, .sl 1 x0), (2, .int .i64 x2), (22, .bool x22)] []) H (kAt PP (orc impl_RegionCells.id) rec k impl_RegionCells.body [1, 0, 1] [] (K0 PP Go.Proofs.Try.f54)) := by
  intros x0 x2 x22 H
  unfold impl_RegionCells.j0
  try simp only [impl_RegionCells.j1_eq rec k]
  kernel_rfl
theorem impl_RegionCells.f_eq (rec : Rec) (k : Nat) : ∀ a0 a1 a2 H, impl_RegionCells.f rec k a0 a1 a2 H = ex PP (orc impl_RegionCells.id) rec k impl_RegionCells.body (St.of 40 [(0, .sl 1 a0), (1, .int .i64 a1), (2, .int .i64 a2)] []) H (K0 PP Go.Proofs.Try.f54) := by
  intros a0 a1 a2 H
  unfold impl_RegionCells.f
  try simp only [impl_RegionCells.j0_eq rec k]
  kernel_rfl
theorem impl_RegionCells.call (k : Nat) : ∀ a0 a1 a2 H, callF PP orc (k + 1) impl_RegionCells.id [.sl 1 a0, .int .i64 a1, .int .i64 a2] H = impl_RegionCells.f (callF PP orc k) k a0 a1 a2 H := by
  intros a0 a1 a2 H
  rw [callF_at (fn := Go.Proofs.Try.f54) (c := impl_RegionCells.body) Go.Proofs.Try.func54 (by kernel_rfl) (Nat.le_of_ble_eq_true (by kernel_rfl)), impl_RegionCells.f_eq]
  kernel_rfl
noncomputable def spec_RegionCells.body : Code := (Go.Proofs.Try.f52).body.getD .skip
def spec_RegionCells.j3 (rec : Rec) (k : Nat) (x7 : Sl) (H : Hp) : An := some (.sl 1 x7, H)
def spec_RegionCells.j4 (rec : Rec) (k : Nat) (L0 : Sl → Int → Int → Sl → Int → Hp → An) (x0 : Sl) (x1 : Int) (x2 : Int) (x7 : Sl) (x8 : Int) (H : Hp) : An := L0 x0 x1 x2 x7 (IntKind.i64.wrap (x8 + 1)) H
def spec_RegionCells.j2 (rec : Rec) (k : Nat) (L0 : Sl → Int → Int → Sl → Int → Hp → An) (x0 : Sl) (x1 : Int) (x2 : Int) (x7 : Sl) (x8 : Int) (H : Hp) : An := bif decide (0 ≤ (x8 : Int)) && decide ((x8 : Int) < x0.len) then (ldI .i64 H x0.blk (x0.off + (x8 : Int).toNat * 1)).bind fun n3 => bif n3 == x2 then (H.app 1 x7 1 [.int .i64 x8]).bind fun a4 => spec_RegionCells.j4 rec k L0 x0 x1 x2 a4.1 x8 a4.2 else spec_RegionCells.j4 rec k L0 x0 x1 x2 x7 x8 H else none
def spec_RegionCells.j1 (rec : Rec) (k : Nat) (L0 : Sl → Int → Int → Sl → Int → Hp → An) (x0 : Sl) (x1 : Int) (x2 : Int) (x7 : Sl) (x8 : Int) (x18 : Bool) (H : Hp) : An := bif x18 then spec_RegionCells.j2 rec k L0 x0 x1 x2 x7 x8 H else spec_RegionCells.j3 rec k x7 H
def spec_RegionCells.l0 (rec : Rec) (k : Nat) : Nat → Sl → Int → Int → Sl → Int → Hp → An
  | 0, _, _, _, _, _, _ => none
  | n + 1, x0, x1, x2, x7, x8, H => bif decide (x8 < (x0.len : Int)) then (rec spec_RegionsValid.id [.sl 1 x0, .int .i64 x1] H).bind fun r1 => r1.1.toB.bind fun b2 => spec_RegionCells.j1 rec k (spec_RegionCells.l0 rec k n) x0 x1 x2 x7 x8 b2 r1.2 else spec_RegionCells.j1 rec k (spec_RegionCells.l0 rec k n) x0 x1 x2 x7 x8 false H
def spec_RegionCells.f (rec : Rec) (k : Nat) (a0 : Sl) (a1 : Int) (a2 : Int) (H : Hp) : An := spec_RegionCells.l0 rec k k a0 a1 a2 (Sl.mk false H.length 0 0) 0 (H ++ [some (Blk.mk false [])])
theorem spec_RegionCells.j3_eq (rec : Rec) (k : Nat) : ∀ x7 H, spec_RegionCells.j3 rec k x7 H = ex PP (orc spec_RegionCells.id) rec k (sub spec_RegionCells.body [1, 1, 1]) (St.of 32 [(7, .sl 1 x7)] []) H (kAt PP (orc spec_RegionCells.id) rec k spec_RegionCells.body [1, 1, 1] [] (K0 PP Go.Proofs.Try.f52)) := by
  intros x7 H
  unfold spec_RegionCells.j3
  kernel_rfl
theorem spec_RegionCells.j4_eq (rec : Rec) (k : Nat) (n0 : Nat) (L0 : Sl → Int → Int → Sl → Int → Hp → An) (hL0 : ∀ x0 x1 x2 x7 x8 H, L0 x0 x1 x2 x7 x8 H = iter ((orc spec_RegionCells.id).at (lbody (sub spec_RegionCells.body [1, 1, 0, 1, 0]))) (ex PP (orc spec_RegionCells.id) rec k (lbody (sub spec_RegionCells.body [1, 1, 0, 1, 0]))) (kAt PP (orc spec_RegionCells.id) rec k spec_RegionCells.body [1, 1, 0, 1, 0] [] (K0 PP Go.Proofs.Try.f52)) n0 (St.of 32 [(0, .sl 1 x0), (1, .int .i64 x1), (2, .int .i64 x2), (7, .sl 1 x7), (8, .int .i64 x8)] []) H) : ∀ x0 x1 x2 x7 x8 H, spec_RegionCells.j4 rec k L0 x0 x1 x2 x7 x8 H = ex PP (orc spec_RegionCells.id) rec k (sub spec_RegionCells.body [1, 1, 0, 1, 0, 0, 1, 1]) (St.of 32 [(0, .sl 1 x0), (1, .int .i64 x1), (2, .int .i64 x2), (7, .sl 1 x7), (8, .int .i64 x8)] []) H (kAt PP (orc spec_RegionCells.id) rec k spec_RegionCells.body [1, 1, 0, 1, 0, 0, 1, 1] [n0] (K0 PP Go.Proofs.Try.f52)) := by
  intros x0 x1 x2 x7 x8 H
  unfold spec_RegionCells.j4
  try simp only [hL0]
  kernel_rfl
theorem spec_RegionCells.j2_eq (rec : Rec) (k : Nat) (n0 : Nat) (L0 : Sl → Int → Int → Sl → Int → Hp → An) (hL0 : ∀ x0 x1 x2 x7 x8 H, L0 x0 x1 x2 x7 x8 H = iter ((orc spec_RegionCells.id).at (lbody (sub spec_RegionCells.body [1, 1, 0, 1, 0]))) (ex PP (orc spec_RegionCells.id) rec k (lbody (sub spec_RegionCells.body [1, 1, 0, 1, 0]))) (kAt PP (orc spec_RegionCells.id) rec k spec_RegionCells.body [1, 1, 0, 1, 0] [] (K0 PP Go.Proofs.Try.f52)) n0 (St.of 32 [(0, .sl 1 x0), (1, .int .i64 x1), (2, .int .i64 x2), (7, .sl 1 x7), (8, .int .i64 x8)] []) H) : ∀ x0 x1 x2 x7 x8 H, spec_RegionCells.j2 rec k L0 x0 x1 x2 x7 x8 H = ex PP (orc spec_RegionCells.id) rec k (sub spec_RegionCells.body [1, 1, 0, 1, 0, 0, 1]) (St.of 32 [(0, .sl 1 x0), (1, .int .i64 x1), (2, .int .i64 x2), (7, .sl 1 x7), (8, .int .i64 x8)] []) H (kAt PP (orc spec_RegionCells.id) rec k spec_RegionCells.body [1, 1, 0, 1, 0, 0, 1] [n0] (K0 PP Go.Proofs.Try.f52)) := by
  intros x0 x1 x2 x7 x8 H
  unfold spec_RegionCells.j2
  try simp only [hL0, spec_RegionCells.j4_eq rec k n0 L0 hL0]
  kernel_rfl
theorem spec_RegionCells.j1_eq (rec : Rec) (k : Nat) (n0 : Nat) (L0 : Sl → Int → Int → Sl → Int → Hp → An) (hL0 : ∀ x0 x1 x2 x7 x8 H, L0 x0 x1 x2 x7 x8 H = iter ((orc spec_RegionCells.id).at (lbody (sub spec_RegionCells.body [1, 1, 0, 1, 0]))) (ex PP (orc spec_RegionCells.id) rec k (lbody (sub spec_RegionCells.body [1, 1, 0, 1, 0]))) (kAt PP (orc spec_RegionCells.id) rec k spec_RegionCells.body [1, 1, 0, 1, 0] [] (K0 PP Go.Proofs.Try.f52)) n0 (St.of 32 [(0, .sl 1 x0), (1, .int .i64 x1), (2, .int .i64 x2), (7, .sl 1 x7), (8, .int .i64 x8)] []) H) : ∀ x0 x1 x2 x7 x8 x18 H, spec_RegionCells.j1 rec k L0 x0 x1 x2 x7 x8 x18 H = ex PP (orc spec_RegionCells.id) rec k (sub spec_RegionCells.body [1, 1, 0, 1, 0, 0, 0, 1]) (St.of 32 [(0, .sl 1 x0), (1, .int .i64 x1), (2, .int .i64 x2), (7, .sl 1 x7), (8, .int .i64 x8), (18, .bool x18)] []) H (kAt PP (orc spec_RegionCells.id) rec k spec_RegionCells.body [1, 1, 0, 1, 0, 0, 0, 1] [n0] (K0 PP Go.Proofs.Try.f52)) := by
  intros x0 x1 x2 x7 x8 x18 H
  unfold spec_RegionCells.j1
  try simp only [hL0, spec_RegionCells.j2_eq rec k n0 L0 hL0, spec_RegionCells.j3_eq rec k]
  kernel_rfl
theorem spec_RegionCells.l0_eq (rec : Rec) (k : Nat) : ∀ n x0 x1 x2 x7 x8 H, spec_RegionCells.l0 rec k n x0 x1 x2 x7 x8 H = iter ((orc spec_RegionCells.id).at (lbody (sub spec_RegionCells.body [1, 1, 0, 1, 0]))) (ex PP (orc spec_RegionCells.id) rec k (lbody (sub spec_RegionCells.body [1, 1, 0, 1, 0]))) (kAt PP (orc spec_RegionCells.id) rec k spec_RegionCells.body [1, 1, 0, 1, 0] [] (K0 PP Go.Proofs.Try.f52)) n (St.of 32 [(0, .sl 1 x0), (1, .int .i64 x1), (2, .int .i64 x2), (7, .sl 1 x7), (8, .int .i64 x8)] []) H := by
  intro n
  induction n with
  | zero => intros; rfl
  | succ n ih =>
    intros x0 x1 x2 x7 x8 H
    simp only [spec_RegionCells.l0, spec_RegionCells.j1_eq rec k n (spec_RegionCells.l0 rec k n) (fun x0 x1 x2 x7 x8 H => ih x0 x1 x2 x7 x8 H), ih]
    kernel_rfl
theorem spec_RegionCells.f_eq (rec : Rec) (k : Nat) : ∀ a0 a1 a2 H, spec_RegionCells.f rec k a0 a1 a2 H = ex PP (orc spec_RegionCells.id) rec k spec_RegionCells.body (St.of 32 [(0, .sl 1 a0), (1, .int .i64 a1), (2, .int .i64 a2)] []) H (K0 PP Go.Proofs.Try.f52) := by
  intros a0 a1 a2 H
  unfold spec_RegionCells.f
  try simp only [spec_RegionCells.l0_eq rec k]
  kernel_rfl
theorem spec_RegionCells.call (k : Nat) : ∀ a0 a1 a2 H, callF PP orc (k + 1) spec_RegionCells.id [.sl 1 a0, .int .i64 a1, .int .i64 a2] H = spec_RegionCells.f (callF PP orc k) k a0 a1 a2 H := by
  intros a0 a1 a2 H
  rw [callF_at (fn := Go.Proofs.Try.f52) (c := spec_RegionCells.body) Go.Proofs.Try.func52 (by kernel_rfl) (Nat.le_of_ble_eq_true (by kernel_rfl)), spec_RegionCells.f_eq]
  kernel_rfl
noncomputable def spec_CageRules.body : Code := (Go.Proofs.Try.f38).body.getD .skip
def spec_CageRules.j4 (rec : Rec) (k : Nat) (x10 : Sl) (H : Hp) : An := some (.tup [.sl 3 x10, .bool true], H)
def spec_CageRules.j6 (rec : Rec) (k : Nat) (L2 : Sl → Int → Sl → Bool → Sl → Int → Hp → An) (x0 : Sl) (x1 : Int) (x2 : Sl) (x3 : Bool) (x10 : Sl) (x11 : Int) (H : Hp) : An := L2 x0 x1 x2 x3 x10 (IntKind.i64.wrap (x11 + 1)) H
def spec_CageRules.j5 (rec : Rec) (k : Nat) (L2 : Sl → Int → Sl → Bool → Sl → Int → Hp → An) (x0 : Sl) (x1 : Int) (x2 : Sl) (x3 : Bool) (x10 : Sl) (x11 : Int) (x12 : Sl) (x13 : Int) (x14 : Int) (H : Hp) : An := bif (x12.len : Int) == 0 then spec_CageRules.j6 rec k L2 x0 x1 x2 x3 x10 x11 H else bif x3 then (H.app 3 x10 1 [.int .i64 3, .sl 1 x12, .int .i64 x14]).bind fun a11 => spec_CageRules.j6 rec k L2 x0 x1 x2 x3 a11.1 x11 a11.2 else (H.app 3 x10 1 [.int .i64 2, .sl 1 x12, .int .i64 x13]).bind fun a12 => spec_CageRules.j6 rec k L2 x0 x1 x2 x3 a12.1 x11 a12.2
def spec_CageRules.l3 (rec : Rec) (k : Nat) (L2 : Sl → Int → Sl → Bool → Sl → Int → Hp → An) : Nat → Sl → Int → Sl → Bool → Sl → Int → Sl → Int → Int → Int → Hp → An
  | 0, _, _, _, _, _, _, _, _, _, _, _ => none
  | n + 1, x0, x1, x2, x3, x10, x11, x12, x13, x14, x15, H => bif decide (x15 < (x12.len : Int)) then bif decide (0 ≤ (x15 : Int)) && decide ((x15 : Int) < x12.len) then (ldI .i64 H x12.blk (x12.off + (x15 : Int).toNat * 1)).bind fun n7 => bif decide (0 ≤ (n7 : Int)) && decide ((n7 : Int) < x0.len) then (ldI .i64 H x0.blk (x0.off + (n7 : Int).toNat * 1)).bind fun n8 => bif decide (0 ≤ (x15 : Int)) && decide ((x15 : Int) < x12.len) then (ldI .i64 H x12.blk (x12.off + (x15 : Int).toNat * 1)).bind fun n9 => bif decide (0 ≤ (n9 : Int)) && decide ((n9 : Int) < x0.len) then (ldI .i64 H x0.blk (x0.off + (n9 : Int).toNat * 1)).bind fun n10 => (spec_CageRules.l3 rec k L2 n) x0 x1 x2 x3 x10 x11 x12 (IntKind.i64.wrap (x13 + n8)) (IntKind.i64.wrap (x14 * n10)) (IntKind.i64.wrap (x15 + 1)) H else none else none else none else none else spec_CageRules.j5 rec k L2 x0 x1 x2 x3 x10 x11 x12 x13 x14 H
def spec_CageRules.l2 (rec : Rec) (k : Nat) : Nat → Sl → Int → Sl → Bool → Sl → Int → Hp → An
  | 0, _, _, _, _, _, _, _ => none
  | n + 1, x0, x1, x2, x3, x10, x11, H => bif decide (x11 < x1) then (rec spec_RegionCells.id [.sl 1 x2, .int .i64 x1, .int .i64 x11] H).bind fun r5 => (r5.1.toS 1).bind fun s6 => bif decide ((s6.len : Int) > 4) then some (.tup [.sl 3 (Sl.mk false r5.2.length 0 0), .bool false], r5.2 ++ [some (Blk.mk false [])]) else spec_CageRules.l3 rec k (spec_CageRules.l2 rec k n) k x0 x1 x2 x3 x10 x11 s6 0 1 0 r5.2 else spec_CageRules.j4 rec k x10 H
def spec_CageRules.j1 (rec : Rec) (k : Nat) (x0 : Sl) (x1 : Int) (x2 : Sl) (x3 : Bool) (x10 : Sl) (H : Hp) : An := spec_CageRules.l2 rec k k x0 x1 x2 x3 x10 0 H
def spec_CageRules.j0 (rec : Rec) (k : Nat) (x0 : Sl) (x1 : Int) (x2 : Sl) (x3 : Bool) (x10 : Sl) (x26 : Bool) (H : Hp) : An := bif x26 then some (.tup [.sl 3 x10, .bool false], H) else spec_CageRules.j1 rec k x0 x1 x2 x3 x10 H
def spec_CageRules.f (rec : Rec) (k : Nat) (a0 : Sl) (a1 : Int) (a2 : Sl) (a3 : Bool) (H : Hp) : An := (rec spec_SquareSolved.id [.sl 1 a0, .int .i64 a1] (H ++ [some (Blk.mk false [])])).bind fun r1 => r1.1.toB.bind fun b2 => bif !b2 then spec_CageRules.j0 rec k a0 a1 a2 a3 (Sl.mk false H.length 0 0) true r1.2 else (rec spec_RegionsValid.id [.sl 1 a2, .int .i64 a1] r1.2).bind fun r3 => r3.1.toB.bind fun b4 => spec_CageRules.j0 rec k a0 a1 a2 a3 (Sl.mk false H.length 0 0) (!b4) r3.2
theorem spec_CageRules.j4_eq (rec : Rec) (k : Nat) : ∀ x10 H, spec_CageRules.j4 rec k x10 H = ex PP (orc spec_CageRules.id) rec k (sub spec_CageRules.body [1, 1, 1, 1]) (St.of 84 [(10, .sl 3 x10)] []) H (kAt PP (orc spec_CageRules.id) rec k spec_CageRules.body [1, 1, 1, 1] [] (K0 PP Go.Proofs.Try.f38)) := by
  intros x10 H
  unfold spec_CageRules.j4
  kernel_rfl
theorem spec_CageRules.j6_eq (rec : Rec) (k : Nat) (n2 : Nat) (L2 : Sl → Int → Sl → Bool → Sl → Int → Hp → An) (hL2 : ∀ x0 x1 x2 x3 x10 x11 H, L2 x0 x1 x2 x3 x10 x11 H = iter ((orc spec_CageRules.id).at (lbody (sub spec_CageRules.body [1, 1, 1, 0, 1, 0]))) (ex PP (orc spec_CageRules.id) rec k (lbody (sub spec_CageRules.body [1, 1, 1, 0, 1, 0]))) (kAt PP (orc spec_CageRules.id) rec k spec_CageRules.body [1, 1, 1, 0, 1, 0] [] (K0 PP Go.Proofs.Try.f38)) n2 (St.of 84 [(0, .sl 1 x0), (1, .int .i64 x1), (2, .sl 1 x2), (3, .bool x3), (10, .sl 3 x10), (11, .int .i64 x11)] []) H) : ∀ x0 x1 x2 x3 x10 x11 H, spec_CageRules.j6 rec k L2 x0 x1 x2 x3 x10 x11 H = ex PP (orc spec_CageRules.id) rec k (sub spec_CageRules.body [1, 1, 1, 0, 1, 0, 0, 1, 1]) (St.of 84 [(0, .sl 1 x0), (1, .int .i64 x1), (2, .sl 1 x2), (3, .bool x3), (10, .sl 3 x10), (11, .int .i64 x11)] []) H (kAt PP (orc spec_CageRules.id) rec k spec_CageRules.body [1, 1, 1, 0, 1, 0, 0, 1, 1] [n2] (K0 PP Go.Proofs.Try.f38)) := by
  intros x0 x1 x2 x3 x10 x11 H
  unfold spec_CageRules.j6
  try simp only [hL2]
  kernel_rfl
theorem spec_CageRules.j5_eq (rec : Rec) (k : Nat) (n2 : Nat) (L2 : Sl → Int → Sl → Bool → Sl → Int → Hp → An) (hL2 : ∀ x0 x1 x2 x3 x10 x11 H, L2 x0 x1 x2 x3 x10 x11 H = iter ((orc spec_CageRules.id).at (lbody (sub spec_CageRules.body [1, 1, 1, 0, 1, 0]))) (ex PP (orc spec_CageRules.id) rec k (lbody (sub spec_CageRules.body [1, 1, 1, 0, 1, 0]))) (kAt PP (orc spec_CageRules.id) rec k spec_CageRules.body [1, 1, 1, 0, 1, 0] [] (K0 PP Go.Proofs.Try.f38)) n2 (St.of 84 [(0, .sl 1 x0), (1, .int .i64 x1), (2, .sl 1 x2), (3, .bool x3), (10, .sl 3 x10), (11, .int .i64 x11)] []) H) : ∀ x0 x1 x2 x3 x10 x11 x12 x13 x14 H, spec_CageRules.j5 rec k L2 x0 x1 x2 x3 x10 x11 x12 x13 x14 H = ex PP (orc spec_CageRules.id) rec k (sub spec_CageRules.body [1, 1, 1, 0, 1, 0, 0, 1, 0, 0, 1, 1, 1, 1, 1]) (St.of 84 [(0, .sl 1 x0), (1, .int .i64 x1), (2, .sl 1 x2), (3, .bool x3), (10, .sl 3 x10), (11, .int .i64 x11), (12, .sl 1 x12), (13, .int .i64 x13), (14, .int .i64 x14)] []) H (kAt PP (orc spec_CageRules.id) rec k spec_CageRules.body [1, 1, 1, 0, 1, 0, 0, 1, 0, 0, 1, 1, 1, 1, 1] [n2] (K0 PP Go.Proofs.Try.f38)) := by
  intros x0 x1 x2 x3 x10 x11 x12 x13 x14 H
  unfold spec_CageRules.j5
  try simp only [hL2, spec_CageRules.j6_eq rec k n2 L2 hL2]
  kernel_rfl
theorem spec_CageRules.l3_eq (rec : Rec) (k : Nat) (n2 : Nat) (L2 : Sl → Int → Sl → Bool → Sl → Int → Hp → An) (hL2 : ∀ x0 x1 x2 x3 x10 x11 H, L2 x0 x1 x2 x3 x10 x11 H = iter ((orc spec_CageRules.id).at (lbody (sub spec_CageRules.body [1, 1, 1, 0, 1, 0]))) (ex PP (orc spec_CageRules.id) rec k (lbody (sub spec_CageRules.body [1, 1, 1, 0, 1, 0]))) (kAt PP (orc spec_CageRules.id) rec k spec_CageRules.body [1, 1, 1, 0, 1, 0] [] (K0 PP Go.Proofs.Try.f38)) n2 (St.of 84 [(0, .sl 1 x0), (1, .int .i64 x1), (2, .sl 1 x2), (3, .bool x3), (10, .sl 3 x10), (11, .int .i64 x11)] []) H) : ∀ n x0 x1 x2 x3 x10 x11 x12 x13 x14 x15 H, spec_CageRules.l3 rec k L2 n x0 x1 x2 x3 x10 x11 x12 x13 x14 x15 H = iter ((orc spec_CageRules.id).at (lbody (sub spec_CageRules.body [1, 1, 1, 0, 1, 0, 0, 1, 0, 0, 1, 1, 1, 1, 0, 1, 0]))) (ex PP (orc spec_CageRules.id) rec k (lbody (sub spec_CageRules.body [1, 1, 1, 0, 1, 0, 0, 1, 0, 0, 1, 1, 1, 1, 0, 1, 0]))) (kAt PP (orc spec_CageRules.id) rec k spec_CageRules.body [1, 1, 1, 0, 1, 0, 0, 1, 0, 0, 1, 1, 1, 1, 0, 1, 0] [n2] (K0 PP Go.Proofs.Try.f38)) n (St.of 84 [(0, .sl 1 x0), (1, .int .i64 x1), (2, .sl 1 x2), (3, .bool x3), (10, .sl 3 x10), (11, .int .i64 x11), (12, .sl 1 x12), (13, .int .i64 x13), (14, .int .i64 x14), (15, .int .i64 x15)] []) H := by
  intro n
  induction n with
  | zero => intros; rfl
  | succ n ih =>
    intros x0 x1 x2 x3 x10 x11 x12 x13 x14 x15 H
    simp only [spec_CageRules.l3, hL2, spec_CageRules.j5_eq rec k n2 L2 hL2, ih]
    kernel_rfl
theorem spec_CageRules.l2_eq (rec : Rec) (k : Nat) : ∀ n x0 x1 x2 x3 x10 x11 H, spec_CageRules.l2 rec k n x0 x1 x2 x3 x10 x11 H = iter ((orc spec_CageRules.id).at (lbody (sub spec_CageRules.body [1, 1, 1, 0, 1, 0]))) (ex PP (orc spec_CageRules.id) rec k (lbody (sub spec_CageRules.body [1, 1, 1, 0, 1, 0]))) (kAt PP (orc spec_CageRules.id) rec k spec_CageRules.body [1, 1, 1, 0, 1, 0] [] (K0 PP Go.Proofs.Try.f38)) n (St.of 84 [(0, .sl 1 x0), (1, .int .i64 x1), (2, .sl 1 x2), (3, .bool x3), (10, .sl 3 x10), (11, .int .i64 x11)] []) H := by
  intro n
  induction n with
  | zero => intros; rfl
  | succ n ih =>
    intros x0 x1 x2 x3 x10 x11 H
    simp only [spec_CageRules.l2, spec_CageRules.l3_eq rec k n (spec_CageRules.l2 rec k n) (fun x0 x1 x2 x3 x10 x11 H => ih x0 x1 x2 x3 x10 x11 H), spec_CageRules.j4_eq rec k, ih]
    kernel_rfl
theorem spec_CageRules.j1_eq (rec : Rec) (k : Nat) : ∀ x0 x1 x2 x3 x10 H, spec_CageRules.j1 rec k x0 x1 x2 x3 x10 H = ex PP (orc spec_CageRules.id) rec k (sub spec_CageRules.body [1, 1, 1]) (St.of 84 [(0, .sl 1 x0), (1, .int .i64 x1), (2, .sl 1 x2), (3, .bool x3), (10, .sl 3 x10)] []) H (kAt PP (orc spec_CageRules.id) rec k spec_CageRules.body [1, 1, 1] [] (K0 PP Go.Proofs.Try.f38)) := by
  intros x0 x1 x2 x3 x10 H
  unfold spec_CageRules.j1
  try simp only [spec_CageRules.l2_eq rec k]
  kernel_rfl
theorem spec_CageRules.j0_eq (rec : Rec) (k : Nat) : ∀ x0 x1 x2 x3 x10 x26 H, spec_CageRules.j0 rec k x0 x1 x2 x3 x10 x26 H = ex PP (orc spec_CageRules.id) rec k (sub spec_CageRules.body [1, 1, 0, 1]) (St.of 84 [(0, .sl 1 x0), (1, .int .i64 x1), (2, .sl 1 x2), (3, .bool x3), (10, .sl 3 x10), (26, .bool x26)] []) H (kAt PP (orc spec_CageRules.id) rec k spec_CageRules.body [1, 1, 0, 1] [] (K0 PP Go.Proofs.Try.f38)) := by
  intros x0 x1 x2 x3 x10 x26 H
  unfold spec_CageRules.j0
  try simp only [spec_CageRules.j1_eq rec k]
  kernel_rfl
theorem spec_CageRules.f_eq (rec : Rec) (k : Nat) : ∀ a0 a1 a2 a3 H, spec_CageRules.f rec k a0 a1 a2 a3 H = ex PP (orc spec_CageRules.id) rec k spec_CageRules.body (St.of 84 [(0, .sl 1 a0), (1, .int .i64 a1), (2, .sl 1 a2), (3, .bool a3)] []) H (K0 PP Go.Proofs.Try.f38) := by
  intros a0 a1 a2 a3 H
  unfold spec_CageRules.f
  try simp only [spec_CageRules.j0_eq rec k]
  kernel_rfl
theorem spec_CageRules.call (k : Nat) : ∀ a0 a1 a2 a3 H, callF PP orc (k + 1) spec_CageRules.id [.sl 1 a0, .int .i64 a1, .sl 1 a2, .bool a3] H = spec_CageRules.f (callF PP orc k) k a0 a1 a2 a3 H := by
  intros a0 a1 a2 a3 H
  rw [callF_at (fn := Go.Proofs.Try.f38) (c := spec_CageRules.body) Go.Proofs.Try.func38 (by kernel_rfl) (Nat.le_of_ble_eq_true (by kernel_rfl)), spec_CageRules.f_eq]
  kernel_rfl
noncomputable def laws_FnExactCageRules.body : Code := (Go.Proofs.Try.f9).body.getD .skip
def laws_FnExactCageRules.j5 (rec : Rec) (k : Nat) (x13 : Sl) (x16 : Int) (H : Hp) : An := (rec laws_heldRuleS.id [.sl 3 x13, .int .i64 1] H).bind fun r44 => (r44.1.toI .i64).bind fun n45 => bif decide (n45 < 0) then some (.bool false, r44.2) else bif n45 != x16 then some (.bool false, r44.2) else some (.bool true, r44.2)
def laws_FnExactCageRules.j4 (rec : Rec) (k : Nat) (x13 : Sl) (x16 : Int) (x115 : Bool) (H : Hp) : An := bif x115 then some (.bool false, H) else laws_FnExactCageRules.j5 rec k x13 x16 H
def laws_FnExactCageRules.j3 (rec : Rec) (k : Nat) (x0 : Sl) (x1 : Int) (x2 : Sl) (x3 : Bool) (x9 : Sl) (x10 : Bool) (x13 : Sl) (H : Hp) : An := (rec laws_markRuleS.id [.sl 3 x13, .int .i64 1] H).bind fun r31 => (r31.1.toI .i64).bind fun n32 => (rec laws_heldRuleS.id [.sl 3 x13, .int .i64 1] r31.2).bind fun r33 => (r33.1.toI .i64).bind fun n34 => bif decide (n34 < 0) then some (.bool false, r33.2) else bif n34 != n32 then some (.bool false, r33.2) else (rec laws_toIntS.id [.sl 1 x0] r33.2).bind fun r35 => (r35.1.toS 1).bind fun s36 => (rec laws_toIntS.id [.sl 1 x2] r35.2).bind fun r37 => (r37.1.toS 1).bind fun s38 => (rec impl_CageRules.id [.sl 1 s36, .int .i64 x1, .sl 1 s38, .bool x3] r37.2).bind fun r39 => bif r39.1.isTup 2 then ((r39.1.nth 0).toS 3).bind fun s40 => (r39.1.nth 1).toB.bind fun b41 => (rec laws_eqRuleS.id [.sl 3 s40, .sl 3 x9] r39.2).bind fun r42 => r42.1.toB.bind fun b43 => bif !b43 then laws_FnExactCageRules.j4 rec k x13 n32 true r42.2 else laws_FnExactCageRules.j4 rec k x13 n32 (!(b41 == x10)) r42.2 else none
def laws_FnExactCageRules.j2 (rec : Rec) (k : Nat) (x0 : Sl) (x1 : Int) (x2 : Sl) (x3 : Bool) (x9 : Sl) (x10 : Bool) (x13 : Sl) (x85 : Bool) (H : Hp) : An := bif x85 then some (.bool false, H) else laws_FnExactCageRules.j3 rec k x0 x1 x2 x3 x9 x10 x13 H
def laws_FnExactCageRules.j1 (rec : Rec) (k : Nat) (x0 : Sl) (x1 : Int) (x2 : Sl) (x3 : Bool) (x9 : Sl) (x10 : Bool) (x11 : Sl) (x12 : Sl) (x13 : Sl) (x14 : Bool) (H : Hp) : An := (rec laws_toIntS.id [.sl 1 x0] H).bind fun r17 => (r17.1.toS 1).bind fun s18 => (rec laws_eqIntS.id [.sl 1 x11, .sl 1 s18] r17.2).bind fun r19 => r19.1.toB.bind fun b20 => bif !b20 then some (.bool false, r19.2) else (rec laws_toIntS.id [.sl 1 x2] r19.2).bind fun r21 => (r21.1.toS 1).bind fun s22 => (rec laws_eqIntS.id [.sl 1 x12, .sl 1 s22] r21.2).bind fun r23 => r23.1.toB.bind fun b24 => bif !b24 then some (.bool false, r23.2) else (rec laws_markIntS.id [.sl 1 x11, .int .i64 1] r23.2).bind fun r25 => (r25.1.toI .i64).bind fun n26 => (rec laws_markIntS.id [.sl 1 x12, .int .i64 n26] r25.2).bind fun r27 => (r27.1.toI .i64).bind fun n28 => bif decide (n28 < 0) then laws_FnExactCageRules.j2 rec k x0 x1 x2 x3 x9 x10 x13 true r27.2 else (rec laws_eqRuleS.id [.sl 3 x13, .sl 3 x9] r27.2).bind fun r29 => r29.1.toB.bind fun b30 => bif !b30 then laws_FnExactCageRules.j2 rec k x0 x1 x2 x3 x9 x10 x13 true r29.2 else laws_FnExactCageRules.j2 rec k x0 x1 x2 x3 x9 x10 x13 (!(x14 == x10)) r29.2
def laws_FnExactCageRules.j0 (rec : Rec) (k : Nat) (x0 : Sl) (x1 : Int) (x2 : Sl) (x3 : Bool) (x9 : Sl) (x10 : Bool) (x11 : Sl) (x12 : Sl) (x13 : Sl) (x14 : Bool) (x56 : Bool) (H : Hp) : An := bif x56 then some (.bool false, H) else laws_FnExactCageRules.j1 rec k x0 x1 x2 x3 x9 x10 x11 x12 x13 x14 H
def laws_FnExactCageRules.f (rec : Rec) (k : Nat) (a0 : Sl) (a1 : Int) (a2 : Sl) (a3 : Bool) (H : Hp) : An := bif decide ((a0.len : Int) > 1048576) then some (.bool true, H) else bif decide ((a2.len : Int) > 1048576) then some (.bool true, H) else (rec laws_toIntS.id [.sl 1 a0] H).bind fun r1 => (r1.1.toS 1).bind fun s2 => (rec laws_toIntS.id [.sl 1 a2] r1.2).bind fun r3 => (r3.1.toS 1).bind fun s4 => (rec spec_CageRules.id [.sl 1 s2, .int .i64 a1, .sl 1 s4, .bool a3] r3.2).bind fun r5 => bif r5.1.isTup 2 then ((r5.1.nth 0).toS 3).bind fun s6 => (r5.1.nth 1).toB.bind fun b7 => (rec laws_toIntS.id [.sl 1 a0] r5.2).bind fun r8 => (r8.1.toS 1).bind fun s9 => (rec laws_toIntS.id [.sl 1 a2] r8.2).bind fun r10 => (r10.1.toS 1).bind fun s11 => (rec impl_CageRules.id [.sl 1 s9, .int .i64 a1, .sl 1 s11, .bool a3] r10.2).bind fun r12 => bif r12.1.isTup 2 then ((r12.1.nth 0).toS 3).bind fun s13 => (r12.1.nth 1).toB.bind fun b14 => (rec laws_eqRuleS.id [.sl 3 s13, .sl 3 s6] r12.2).bind fun r15 => r15.1.toB.bind fun b16 => bif !b16 then laws_FnExactCageRules.j0 rec k a0 a1 a2 a3 s6 b7 s9 s11 s13 b14 true r15.2 else laws_FnExactCageRules.j0 rec k a0 a1 a2 a3 s6 b7 s9 s11 s13 b14 (!(b14 == b7)) r15.2 else none else none
theorem laws_FnExactCageRules.j5_eq (rec : Rec) (k : Nat) : ∀ x13 x16 H, laws_FnExactCageRules.j5 rec k x13 x16 H = ex PP (orc laws_FnExactCageRules.id) rec k (sub laws_FnExactCageRules.body [1, 1, 1, 1, 1, 1, 1, 1, 1, 1, 1, 1, 1, 1, 1, 1, 1, 1, 1, 1, 1, 1]) (St.of 124 [(13, .sl 3 x13), (16, .int .i64 x16)] []) H (kAt PP (orc laws_FnExactCageRules.id) rec k laws_FnExactCageRules.body [1, 1, 1, 1, 1, 1, 1, 1, 1, 1, 1, 1, 1, 1, 1, 1, 1, 1, 1, 1, 1, 1] [] (K0 PP Go.Proofs.Try.f9)) := by
  intros x13 x16 H
  unfold laws_FnExactCageRules.j5
  kernel_rfl
theorem laws_FnExactCageRules.j4_eq (rec : Rec) (k : Nat) : ∀ x13 x16 x115 H, laws_FnExactCageRules.j4 rec k x13 x16 x115 H = ex PP (orc laws_FnExactCageRules.id) rec k (sub laws_FnExactCageRules.body [1, 1, 1, 1, 1, 1, 1, 1, 1, 1, 1, 1, 1, 1, 1, 1, 1, 1, 1, 1, 1, 0, 1]) (St.of 124 [(13, .sl 3 x13), (16, .int .i64 x16), (115, .bool x115)] []) H (kAt PP (orc laws_FnExactCageRules.id) rec k laws_FnExactCageRules.body [1, 1, 1, 1, 1, 1, 1, 1, 1, 1, 1, 1, 1, 1, 1, 1, 1, 1, 1, 1, 1, 0, 1] [] (K0 PP Go.Proofs.Try.f9)) := by
  intros x13 x16 x115 H
  unfold laws_FnExactCageRules.j4
  try simp only [laws_FnExactCageRules.j5_eq rec k]
  kernel_rfl
theorem laws_FnExactCageRules.j3_eq (rec : Rec) (k : Nat) : ∀ x0 x1 x2 x3 x9 x10 x13 H, laws_FnExactCageRules.j3 rec k x0 x1 x2 x3 x9 x10 x13 H = ex PP (orc laws_FnExactCageRules.id) rec k (sub laws_FnExactCageRules.body [1, 1, 1, 1, 1, 1, 1, 1, 1, 1, 1, 1, 1, 1]) (St.of 124 [(0, .sl 1 x0), (1, .int .i64 x1), (2, .sl 1 x2), (3, .bool x3), (9, .sl 3 x9), (10, .bool x10), (13, .sl 3 x13)] []) H (kAt PP (orc laws_FnExactCageRules.id) rec k laws_FnExactCageRules.body [1, 1, 1, 1, 1, 1, 1, 1, 1, 1, 1, 1, 1, 1] [] (K0 PP Go.Proofs.Try.f9)) := by
  intros x0 x1 x2 x3 x9 x10 x13 H
  unfold laws_FnExactCageRules.j3
  try simp only [laws_FnExactCageRules.j4_eq rec k]
  kernel_rfl
theorem laws_FnExactCageRules.j2_eq (rec : Rec) (k : Nat) : ∀ x0 x1 x2 x3 x9 x10 x13 x85 H, laws_FnExactCageRules.j2 rec k x0 x1 x2 x3 x9 x10 x13 x85 H = ex PP (orc laws_FnExactCageRules.id) rec k (sub laws_FnExactCageRules.body [1, 1, 1, 1, 1, 1, 1, 1, 1, 1, 1, 1, 1, 0, 1]) (St.of 124 [(0, .sl 1 x0), (1, .int .i64 x1), (2, .sl 1 x2), (3, .bool x3), (9, .sl 3 x9), (10, .bool x10), (13, .sl 3 x13), (85, .bool x85)] []) H (kAt PP (orc laws_FnExactCageRules.id) rec k laws_FnExactCageRules.body [1, 1, 1, 1, 1, 1, 1, 1, 1, 1, 1, 1, 1, 0, 1] [] (K0 PP Go.Proofs.Try.f9)) := by
  intros x0 x1 x2 x3 x9 x10 x13 x85 H
  unfold laws_FnExactCageRules.j2
  try simp only [laws_FnExactCageRules.j3_eq rec k]
  kernel_rfl
theorem laws_FnExactCageRules.j1_eq (rec : Rec) (k : Nat) : ∀ x0 x1 x2 x3 x9 x10 x11 x12 x13 x14 H, laws_FnExactCageRules.j1 rec k x0 x1 x2 x3 x9 x10 x11 x12 x13 x14 H = ex PP (orc laws_FnExactCageRules.id) rec k (sub laws_FnExactCageRules.body [1, 1, 1, 1, 1, 1, 1, 1]) (St.of 124 [(0, .sl 1 x0), (1, .int .i64 x1), (2, .sl 1 x2), (3, .bool x3), (9, .sl 3 x9), (10, .bool x10), (11, .sl 1 x11), (12, .sl 1 x12), (13, .sl 3 x13), (14, .bool x14)] []) H (kAt PP (orc laws_FnExactCageRules.id) rec k laws_FnExactCageRules.body [1, 1, 1, 1, 1, 1, 1, 1] [] (K0 PP Go.Proofs.Try.f9)) := by
  intros x0 x1 x2 x3 x9 x10 x11 x12 x13 x14 H
  unfold laws_FnExactCageRules.j1
  try simp only [laws_FnExactCageRules.j2_eq rec k]
  kernel_rfl
theorem laws_FnExactCageRules.j0_eq (rec : Rec) (k : Nat) : ∀ x0 x1 x2 x3 x9 x10 x11 x12 x13 x14 x56 H, laws_FnExactCageRules.j0 rec k x0 x1 x2 x3 x9 x10 x11 x12 x13 x14 x56 H = ex PP (orc laws_FnExactCageRules.id) rec k (sub laws_FnExactCageRules.body [1, 1, 1, 1, 1, 1, 1, 0, 1]) (St.of 124 [(0, .sl 1 x0), (1, .int .i64 x1), (2, .sl 1 x2), (3, .bool x3), (9, .sl 3 x9), (10, .bool x10), (11, .sl 1 x11), (12, .sl 1 x12), (13, .sl 3 x13), (14, .bool x14), (56, .bool x56)] []) H (kAt PP (orc laws_FnExactCageRules.id) rec k laws_FnExactCageRules.body [1, 1, 1, 1, 1, 1, 1, 0, 1] [] (K0 PP Go.Proofs.Try.f9)) := by
  intros x0 x1 x2 x3 x9 x10 x11 x12 x13 x14 x56 H
  unfold laws_FnExactCageRules.j0
  try simp only [laws_FnExactCageRules.j1_eq rec k]
  kernel_rfl
theorem laws_FnExactCageRules.f_eq (rec : Rec) (k : Nat) : ∀ a0 a1 a2 a3 H, laws_FnExactCageRules.f rec k a0 a1 a2 a3 H = ex PP (orc laws_FnExactCageRules.id) rec k laws_FnExactCageRules.body (St.of 124 [(0, .sl 1 a0), (1, .int .i64 a1), (2, .sl 1 a2), (3, .bool a3)] []) H (K0 PP Go.Proofs.Try.f9) := by
  intros a0 a1 a2 a3 H
  unfold laws_FnExactCageRules.f
  try simp only [laws_FnExactCageRules.j0_eq rec k]
  kernel_rfl
theorem laws_FnExactCageRules.call (k : Nat) : ∀ a0 a1 a2 a3 H, callF PP orc (k + 1) laws_FnExactCageRules.id [.sl 1 a0, .int .i64 a1, .sl 1 a2, .bool a3] H = laws_FnExactCageRules.f (callF PP orc k) k a0 a1 a2 a3 H := by
  intros a0 a1 a2 a3 H
  rw [callF_at (fn := Go.Proofs.Try.f9) (c := laws_FnExactCageRules.body) Go.Proofs.Try.func9 (by kernel_rfl) (Nat.le_of_ble_eq_true (by kernel_rfl)), laws_FnExactCageRules.f_eq]
  kernel_rfl
end Go.Proofs.Ytncmneliinbjdaa.Rp
