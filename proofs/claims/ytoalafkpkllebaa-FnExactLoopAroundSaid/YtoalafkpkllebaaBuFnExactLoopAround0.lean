/- Texts for the row of the law FnExactLoopAround, part 0: the plain machine, the program's functions on it, what they come to. No conditions. -/
import Derived.Test.YtoalafkpkllebaaAb
import Derived.Test.YtoalafkpkllebaaOr
/- Functions of the program as plain Lean functions. No conditions. -/
set_option linter.unusedVariables false
set_option linter.unusedSimpArgs false
set_option maxRecDepth 100000
namespace Go.Proofs.Ytoalafkpkllebaa.Rp
open Go Go.Proofs.Ytoalafkpkllebaa.Ab
noncomputable def spec_l1In.body : Code := (Go.Proofs.Try.f12).body.getD .skip
noncomputable def spec_l1In.f (rec : Rec) (k : Nat) (a0 : Int) (a1 : Int) (a2 : Int) (H : Hp) : An := bif decide (a0 ≥ a1) then some (.bool (decide (a0 ≤ a2)), H) else some (.bool false, H)
theorem spec_l1In.f_eq (rec : Rec) (k : Nat) : ∀ a0 a1 a2 H, spec_l1In.f rec k a0 a1 a2 H = ex PP (orc spec_l1In.id) rec k spec_l1In.body (St.of 15 [(0, .int .i64 a0), (1, .int .i64 a1), (2, .int .i64 a2)] []) H (K0 PP Go.Proofs.Try.f12) := by
  intros a0 a1 a2 H
  unfold spec_l1In.f
  kernel_rfl
theorem spec_l1In.call (k : Nat) : ∀ a0 a1 a2 H, callF PP orc (k + 1) spec_l1In.id [.int .i64 a0, .int .i64 a1, .int .i64 a2] H = spec_l1In.f (callF PP orc k) k a0 a1 a2 H := by
  intros a0 a1 a2 H
  rw [callF_at (fn := Go.Proofs.Try.f12) (c := spec_l1In.body) Go.Proofs.Try.func12 (by kernel_rfl) (Nat.le_of_ble_eq_true (by kernel_rfl)), spec_l1In.f_eq]
  kernel_rfl
noncomputable def laws_toBoolS.body : Code := (Go.Proofs.Try.f5).body.getD .skip
noncomputable def laws_toBoolS.j1 (rec : Rec) (k : Nat) (x3 : Sl) (H : Hp) : An := some (.sl 1 x3, H)
noncomputable def laws_toBoolS.l0 (rec : Rec) (k : Nat) : Nat → Sl → Sl → Int → Hp → An
  | 0, _, _, _, _ => none
  | n + 1, x0, x3, x4, H => bif decide (x4 < (x0.len : Int)) then bif decide (0 ≤ (x4 : Int)) && decide ((x4 : Int) < x0.len) then (ldB H x0.blk (x0.off + (x4 : Int).toNat * 1)).bind fun b1 => bif decide (0 ≤ (x4 : Int)) && decide ((x4 : Int) < x3.len) then (H.sto x3.blk (x3.off + (x4 : Int).toNat * 1) [.bool b1]).bind fun H2 => (laws_toBoolS.l0 rec k n) x0 x3 (IntKind.i64.wrap (x4 + 1)) H2 else none else none else laws_toBoolS.j1 rec k x3 H
noncomputable def laws_toBoolS.f (rec : Rec) (k : Nat) (a0 : Sl) (H : Hp) : An := if 0 ≤ ((a0.len : Int) : Int) ∧ ((a0.len : Int) : Int) ≤ (a0.len : Int) ∧ ((a0.len : Int) : Int) ≤ 1073741824 ∧ 1 ≤ 8192 ∧ 0 < 1 then laws_toBoolS.l0 rec k k a0 (Sl.mk false H.length 0 ((a0.len : Int) : Int).toNat) 0 (H ++ [some (Blk.mk false (List.replicate ((a0.len : Int) : Int).toNat [.bool false]).flatten)]) else none
theorem laws_toBoolS.j1_eq (rec : Rec) (k : Nat) : ∀ x3 H, laws_toBoolS.j1 rec k x3 H = ex PP (orc laws_toBoolS.id) rec k (sub laws_toBoolS.body [1, 1, 1]) (St.of 22 [(3, .sl 1 x3)] []) H (kAt PP (orc laws_toBoolS.id) rec k laws_toBoolS.body [1, 1, 1] [] (K0 PP Go.Proofs.Try.f5)) := by
  intros x3 H
  unfold laws_toBoolS.j1
  kernel_rfl
theorem laws_toBoolS.l0_eq (rec : Rec) (k : Nat) : ∀ n x0 x3 x4 H, laws_toBoolS.l0 rec k n x0 x3 x4 H = iter ((orc laws_toBoolS.id).at (lbody (sub laws_toBoolS.body [1, 1, 0, 1, 0]))) (ex PP (orc laws_toBoolS.id) rec k (lbody (sub laws_toBoolS.body [1, 1, 0, 1, 0]))) (kAt PP (orc laws_toBoolS.id) rec k laws_toBoolS.body [1, 1, 0, 1, 0] [] (K0 PP Go.Proofs.Try.f5)) n (St.of 22 [(0, .sl 1 x0), (3, .sl 1 x3), (4, .int .i64 x4)] []) H := by
  intro n
  induction n with
  | zero => intros; rfl
  | succ n ih =>
    intros x0 x3 x4 H
    simp only [laws_toBoolS.l0, laws_toBoolS.j1_eq rec k, ih, -eq_self]
    kernel_rfl
theorem laws_toBoolS.f_eq (rec : Rec) (k : Nat) : ∀ a0 H, laws_toBoolS.f rec k a0 H = ex PP (orc laws_toBoolS.id) rec k laws_toBoolS.body (St.of 22 [(0, .sl 1 a0)] []) H (K0 PP Go.Proofs.Try.f5) := by
  intros a0 H
  unfold laws_toBoolS.f
  try simp only [laws_toBoolS.l0_eq rec k, -eq_self]
  kernel_rfl
theorem laws_toBoolS.call (k : Nat) : ∀ a0 H, callF PP orc (k + 1) laws_toBoolS.id [.sl 1 a0] H = laws_toBoolS.f (callF PP orc k) k a0 H := by
  intros a0 H
  rw [callF_at (fn := Go.Proofs.Try.f5) (c := laws_toBoolS.body) Go.Proofs.Try.func5 (by kernel_rfl) (Nat.le_of_ble_eq_true (by kernel_rfl)), laws_toBoolS.f_eq]
  kernel_rfl
noncomputable def laws_eqBoolS.body : Code := (Go.Proofs.Try.f8).body.getD .skip
noncomputable def laws_eqBoolS.l0 (rec : Rec) (k : Nat) : Nat → Sl → Sl → Int → Hp → An
  | 0, _, _, _, _ => none
  | n + 1, x0, x1, x5, H => bif decide (x5 < (x0.len : Int)) then bif decide (0 ≤ (x5 : Int)) && decide ((x5 : Int) < x0.len) then (ldB H x0.blk (x0.off + (x5 : Int).toNat * 1)).bind fun b1 => bif decide (0 ≤ (x5 : Int)) && decide ((x5 : Int) < x1.len) then (ldB H x1.blk (x1.off + (x5 : Int).toNat * 1)).bind fun b2 => bif !(b1 == b2) then some (.bool false, H) else (laws_eqBoolS.l0 rec k n) x0 x1 (IntKind.i64.wrap (x5 + 1)) H else none else none else some (.bool true, H)
noncomputable def laws_eqBoolS.f (rec : Rec) (k : Nat) (a0 : Sl) (a1 : Sl) (H : Hp) : An := bif (a0.len : Int) != (a1.len : Int) then some (.bool false, H) else laws_eqBoolS.l0 rec k k a0 a1 0 H
theorem laws_eqBoolS.l0_eq (rec : Rec) (k : Nat) : ∀ n x0 x1 x5 H, laws_eqBoolS.l0 rec k n x0 x1 x5 H = iter ((orc laws_eqBoolS.id).at (lbody (sub laws_eqBoolS.body [1, 1, 0, 1, 0]))) (ex PP (orc laws_eqBoolS.id) rec k (lbody (sub laws_eqBoolS.body [1, 1, 0, 1, 0]))) (kAt PP (orc laws_eqBoolS.id) rec k laws_eqBoolS.body [1, 1, 0, 1, 0] [] (K0 PP Go.Proofs.Try.f8)) n (St.of 26 [(0, .sl 1 x0), (1, .sl 1 x1), (5, .int .i64 x5)] []) H := by
  intro n
  induction n with
  | zero => intros; rfl
  | succ n ih =>
    intros x0 x1 x5 H
    simp only [laws_eqBoolS.l0, ih, -eq_self]
    kernel_rfl
theorem laws_eqBoolS.f_eq (rec : Rec) (k : Nat) : ∀ a0 a1 H, laws_eqBoolS.f rec k a0 a1 H = ex PP (orc laws_eqBoolS.id) rec k laws_eqBoolS.body (St.of 26 [(0, .sl 1 a0), (1, .sl 1 a1)] []) H (K0 PP Go.Proofs.Try.f8) := by
  intros a0 a1 H
  unfold laws_eqBoolS.f
  try simp only [laws_eqBoolS.l0_eq rec k, -eq_self]
  kernel_rfl
theorem laws_eqBoolS.call (k : Nat) : ∀ a0 a1 H, callF PP orc (k + 1) laws_eqBoolS.id [.sl 1 a0, .sl 1 a1] H = laws_eqBoolS.f (callF PP orc k) k a0 a1 H := by
  intros a0 a1 H
  rw [callF_at (fn := Go.Proofs.Try.f8) (c := laws_eqBoolS.body) Go.Proofs.Try.func8 (by kernel_rfl) (Nat.le_of_ble_eq_true (by kernel_rfl)), laws_eqBoolS.f_eq]
  kernel_rfl
noncomputable def laws_eqBoolSS.body : Code := (Go.Proofs.Try.f14).body.getD .skip
noncomputable def laws_eqBoolSS.l0 (rec : Rec) (k : Nat) : Nat → Sl → Sl → Int → Hp → An
  | 0, _, _, _, _ => none
  | n + 1, x0, x1, x5, H => bif decide (x5 < (x0.len : Int)) then bif decide (0 ≤ (x5 : Int)) && decide ((x5 : Int) < x0.len) then (ldS 1 H x0.blk (x0.off + (x5 : Int).toNat * 1)).bind fun s1 => bif decide (0 ≤ (x5 : Int)) && decide ((x5 : Int) < x1.len) then (ldS 1 H x1.blk (x1.off + (x5 : Int).toNat * 1)).bind fun s2 => (rec laws_eqBoolS.id [.sl 1 s1, .sl 1 s2] H).bind fun r3 => r3.1.toB.bind fun b4 => bif !b4 then some (.bool false, r3.2) else (laws_eqBoolSS.l0 rec k n) x0 x1 (IntKind.i64.wrap (x5 + 1)) r3.2 else none else none else some (.bool true, H)
noncomputable def laws_eqBoolSS.f (rec : Rec) (k : Nat) (a0 : Sl) (a1 : Sl) (H : Hp) : An := bif (a0.len : Int) != (a1.len : Int) then some (.bool false, H) else laws_eqBoolSS.l0 rec k k a0 a1 0 H
theorem laws_eqBoolSS.l0_eq (rec : Rec) (k : Nat) : ∀ n x0 x1 x5 H, laws_eqBoolSS.l0 rec k n x0 x1 x5 H = iter ((orc laws_eqBoolSS.id).at (lbody (sub laws_eqBoolSS.body [1, 1, 0, 1, 0]))) (ex PP (orc laws_eqBoolSS.id) rec k (lbody (sub laws_eqBoolSS.body [1, 1, 0, 1, 0]))) (kAt PP (orc laws_eqBoolSS.id) rec k laws_eqBoolSS.body [1, 1, 0, 1, 0] [] (K0 PP Go.Proofs.Try.f14)) n (St.of 27 [(0, .sl 1 x0), (1, .sl 1 x1), (5, .int .i64 x5)] []) H := by
  intro n
  induction n with
  | zero => intros; rfl
  | succ n ih =>
    intros x0 x1 x5 H
    simp only [laws_eqBoolSS.l0, ih, -eq_self]
    kernel_rfl
theorem laws_eqBoolSS.f_eq (rec : Rec) (k : Nat) : ∀ a0 a1 H, laws_eqBoolSS.f rec k a0 a1 H = ex PP (orc laws_eqBoolSS.id) rec k laws_eqBoolSS.body (St.of 27 [(0, .sl 1 a0), (1, .sl 1 a1)] []) H (K0 PP Go.Proofs.Try.f14) := by
  intros a0 a1 H
  unfold laws_eqBoolSS.f
  try simp only [laws_eqBoolSS.l0_eq rec k, -eq_self]
  kernel_rfl
theorem laws_eqBoolSS.call (k : Nat) : ∀ a0 a1 H, callF PP orc (k + 1) laws_eqBoolSS.id [.sl 1 a0, .sl 1 a1] H = laws_eqBoolSS.f (callF PP orc k) k a0 a1 H := by
  intros a0 a1 H
  rw [callF_at (fn := Go.Proofs.Try.f14) (c := laws_eqBoolSS.body) Go.Proofs.Try.func14 (by kernel_rfl) (Nat.le_of_ble_eq_true (by kernel_rfl)), laws_eqBoolSS.f_eq]
  kernel_rfl
noncomputable def laws_eqLoop.body : Code := (Go.Proofs.Try.f7).body.getD .skip
noncomputable def laws_eqLoop.f (rec : Rec) (k : Nat) (a0_0 : Int) (a0_1 : Int) (a0_2 : Sl) (a0_3 : Sl) (a1_0 : Int) (a1_1 : Int) (a1_2 : Sl) (a1_3 : Sl) (H : Hp) : An := bif a0_0 != a1_0 then some (.bool false, H) else bif a0_1 != a1_1 then some (.bool false, H) else (rec laws_eqBoolSS.id [.sl 1 a0_2, .sl 1 a1_2] H).bind fun r1 => r1.1.toB.bind fun b2 => bif !b2 then some (.bool false, r1.2) else (rec laws_eqBoolSS.id [.sl 1 a0_3, .sl 1 a1_3] r1.2).bind fun r3 => r3.1.toB.bind fun b4 => bif !b4 then some (.bool false, r3.2) else some (.bool true, r3.2)
theorem laws_eqLoop.f_eq (rec : Rec) (k : Nat) : ∀ a0_0 a0_1 a0_2 a0_3 a1_0 a1_1 a1_2 a1_3 H, laws_eqLoop.f rec k a0_0 a0_1 a0_2 a0_3 a1_0 a1_1 a1_2 a1_3 H = ex PP (orc laws_eqLoop.id) rec k laws_eqLoop.body (St.of 27 [(0, .agg [.int .i64 a0_0, .int .i64 a0_1, .sl 1 a0_2, .sl 1 a0_3]), (1, .agg [.int .i64 a1_0, .int .i64 a1_1, .sl 1 a1_2, .sl 1 a1_3])] []) H (K0 PP Go.Proofs.Try.f7) := by
  intros a0_0 a0_1 a0_2 a0_3 a1_0 a1_1 a1_2 a1_3 H
  unfold laws_eqLoop.f
  kernel_rfl
theorem laws_eqLoop.call (k : Nat) : ∀ a0_0 a0_1 a0_2 a0_3 a1_0 a1_1 a1_2 a1_3 H, callF PP orc (k + 1) laws_eqLoop.id [.agg [.int .i64 a0_0, .int .i64 a0_1, .sl 1 a0_2, .sl 1 a0_3], .agg [.int .i64 a1_0, .int .i64 a1_1, .sl 1 a1_2, .sl 1 a1_3]] H = laws_eqLoop.f (callF PP orc k) k a0_0 a0_1 a0_2 a0_3 a1_0 a1_1 a1_2 a1_3 H := by
  intros a0_0 a0_1 a0_2 a0_3 a1_0 a1_1 a1_2 a1_3 H
  rw [callF_at (fn := Go.Proofs.Try.f7) (c := laws_eqLoop.body) Go.Proofs.Try.func7 (by kernel_rfl) (Nat.le_of_ble_eq_true (by kernel_rfl)), laws_eqLoop.f_eq]
  kernel_rfl
noncomputable def laws_markBoolS.body : Code := (Go.Proofs.Try.f9).body.getD .skip
noncomputable def laws_markBoolS.j1 (rec : Rec) (k : Nat) (x1 : Int) (H : Hp) : An := some (.int .i64 x1, H)
noncomputable def laws_markBoolS.l0 (rec : Rec) (k : Nat) : Nat → Sl → Int → Int → Hp → An
  | 0, _, _, _, _ => none
  | n + 1, x0, x1, x5, H => bif decide (x5 < (x0.len : Int)) then bif decide (0 ≤ (x5 : Int)) && decide ((x5 : Int) < x0.len) then (H.sto x0.blk (x0.off + (x5 : Int).toNat * 1) [.bool (((x1 : Int).tmod 3) == 0)]).bind fun H1 => (laws_markBoolS.l0 rec k n) x0 (IntKind.i64.wrap (x1 + 1)) (IntKind.i64.wrap (x5 + 1)) H1 else none else laws_markBoolS.j1 rec k x1 H
noncomputable def laws_markBoolS.f (rec : Rec) (k : Nat) (a0 : Sl) (a1 : Int) (H : Hp) : An := laws_markBoolS.l0 rec k k a0 a1 0 H
theorem laws_markBoolS.j1_eq (rec : Rec) (k : Nat) : ∀ x1 H, laws_markBoolS.j1 rec k x1 H = ex PP (orc laws_markBoolS.id) rec k (sub laws_markBoolS.body [1, 1]) (St.of 21 [(1, .int .i64 x1)] []) H (kAt PP (orc laws_markBoolS.id) rec k laws_markBoolS.body [1, 1] [] (K0 PP Go.Proofs.Try.f9)) := by
  intros x1 H
  unfold laws_markBoolS.j1
  kernel_rfl
theorem laws_markBoolS.l0_eq (rec : Rec) (k : Nat) : ∀ n x0 x1 x5 H, laws_markBoolS.l0 rec k n x0 x1 x5 H = iter ((orc laws_markBoolS.id).at (lbody (sub laws_markBoolS.body [1, 0, 1, 0]))) (ex PP (orc laws_markBoolS.id) rec k (lbody (sub laws_markBoolS.body [1, 0, 1, 0]))) (kAt PP (orc laws_markBoolS.id) rec k laws_markBoolS.body [1, 0, 1, 0] [] (K0 PP Go.Proofs.Try.f9)) n (St.of 21 [(0, .sl 1 x0), (1, .int .i64 x1), (5, .int .i64 x5)] []) H := by
  intro n
  induction n with
  | zero => intros; rfl
  | succ n ih =>
    intros x0 x1 x5 H
    simp only [laws_markBoolS.l0, laws_markBoolS.j1_eq rec k, ih, -eq_self]
    kernel_rfl
theorem laws_markBoolS.f_eq (rec : Rec) (k : Nat) : ∀ a0 a1 H, laws_markBoolS.f rec k a0 a1 H = ex PP (orc laws_markBoolS.id) rec k laws_markBoolS.body (St.of 21 [(0, .sl 1 a0), (1, .int .i64 a1)] []) H (K0 PP Go.Proofs.Try.f9) := by
  intros a0 a1 H
  unfold laws_markBoolS.f
  try simp only [laws_markBoolS.l0_eq rec k, -eq_self]
  kernel_rfl
theorem laws_markBoolS.call (k : Nat) : ∀ a0 a1 H, callF PP orc (k + 1) laws_markBoolS.id [.sl 1 a0, .int .i64 a1] H = laws_markBoolS.f (callF PP orc k) k a0 a1 H := by
  intros a0 a1 H
  rw [callF_at (fn := Go.Proofs.Try.f9) (c := laws_markBoolS.body) Go.Proofs.Try.func9 (by kernel_rfl) (Nat.le_of_ble_eq_true (by kernel_rfl)), laws_markBoolS.f_eq]
  kernel_rfl
noncomputable def laws_markBoolSS.body : Code := (Go.Proofs.Try.f15).body.getD .skip
noncomputable def laws_markBoolSS.j1 (rec : Rec) (k : Nat) (x1 : Int) (H : Hp) : An := some (.int .i64 x1, H)
noncomputable def laws_markBoolSS.l0 (rec : Rec) (k : Nat) : Nat → Sl → Int → Int → Hp → An
  | 0, _, _, _, _ => none
  | n + 1, x0, x1, x5, H => bif decide (x5 < (x0.len : Int)) then bif decide (0 ≤ (x5 : Int)) && decide ((x5 : Int) < x0.len) then (ldS 1 H x0.blk (x0.off + (x5 : Int).toNat * 1)).bind fun s1 => (rec laws_markBoolS.id [.sl 1 s1, .int .i64 x1] H).bind fun r2 => (r2.1.toI .i64).bind fun n3 => (laws_markBoolSS.l0 rec k n) x0 n3 (IntKind.i64.wrap (x5 + 1)) r2.2 else none else laws_markBoolSS.j1 rec k x1 H
noncomputable def laws_markBoolSS.f (rec : Rec) (k : Nat) (a0 : Sl) (a1 : Int) (H : Hp) : An := laws_markBoolSS.l0 rec k k a0 a1 0 H
theorem laws_markBoolSS.j1_eq (rec : Rec) (k : Nat) : ∀ x1 H, laws_markBoolSS.j1 rec k x1 H = ex PP (orc laws_markBoolSS.id) rec k (sub laws_markBoolSS.body [1, 1]) (St.of 19 [(1, .int .i64 x1)] []) H (kAt PP (orc laws_markBoolSS.id) rec k laws_markBoolSS.body [1, 1] [] (K0 PP Go.Proofs.Try.f15)) := by
  intros x1 H
  unfold laws_markBoolSS.j1
  kernel_rfl
theorem laws_markBoolSS.l0_eq (rec : Rec) (k : Nat) : ∀ n x0 x1 x5 H, laws_markBoolSS.l0 rec k n x0 x1 x5 H = iter ((orc laws_markBoolSS.id).at (lbody (sub laws_markBoolSS.body [1, 0, 1, 0]))) (ex PP (orc laws_markBoolSS.id) rec k (lbody (sub laws_markBoolSS.body [1, 0, 1, 0]))) (kAt PP (orc laws_markBoolSS.id) rec k laws_markBoolSS.body [1, 0, 1, 0] [] (K0 PP Go.Proofs.Try.f15)) n (St.of 19 [(0, .sl 1 x0), (1, .int .i64 x1), (5, .int .i64 x5)] []) H := by
  intro n
  induction n with
  | zero => intros; rfl
  | succ n ih =>
    intros x0 x1 x5 H
    simp only [laws_markBoolSS.l0, laws_markBoolSS.j1_eq rec k, ih, -eq_self]
    kernel_rfl
theorem laws_markBoolSS.f_eq (rec : Rec) (k : Nat) : ∀ a0 a1 H, laws_markBoolSS.f rec k a0 a1 H = ex PP (orc laws_markBoolSS.id) rec k laws_markBoolSS.body (St.of 19 [(0, .sl 1 a0), (1, .int .i64 a1)] []) H (K0 PP Go.Proofs.Try.f15) := by
  intros a0 a1 H
  unfold laws_markBoolSS.f
  try simp only [laws_markBoolSS.l0_eq rec k, -eq_self]
  kernel_rfl
theorem laws_markBoolSS.call (k : Nat) : ∀ a0 a1 H, callF PP orc (k + 1) laws_markBoolSS.id [.sl 1 a0, .int .i64 a1] H = laws_markBoolSS.f (callF PP orc k) k a0 a1 H := by
  intros a0 a1 H
  rw [callF_at (fn := Go.Proofs.Try.f15) (c := laws_markBoolSS.body) Go.Proofs.Try.func15 (by kernel_rfl) (Nat.le_of_ble_eq_true (by kernel_rfl)), laws_markBoolSS.f_eq]
  kernel_rfl
noncomputable def laws_markLoop.body : Code := (Go.Proofs.Try.f10).body.getD .skip
noncomputable def laws_markLoop.f (rec : Rec) (k : Nat) (a0_0 : Int) (a0_1 : Int) (a0_2 : Sl) (a0_3 : Sl) (a1 : Int) (H : Hp) : An := (rec laws_markBoolSS.id [.sl 1 a0_2, .int .i64 a1] H).bind fun r1 => (r1.1.toI .i64).bind fun n2 => (rec laws_markBoolSS.id [.sl 1 a0_3, .int .i64 n2] r1.2).bind fun r3 => (r3.1.toI .i64).bind fun n4 => some (.int .i64 n4, r3.2)
theorem laws_markLoop.f_eq (rec : Rec) (k : Nat) : ∀ a0_0 a0_1 a0_2 a0_3 a1 H, laws_markLoop.f rec k a0_0 a0_1 a0_2 a0_3 a1 H = ex PP (orc laws_markLoop.id) rec k laws_markLoop.body (St.of 14 [(0, .agg [.int .i64 a0_0, .int .i64 a0_1, .sl 1 a0_2, .sl 1 a0_3]), (1, .int .i64 a1)] []) H (K0 PP Go.Proofs.Try.f10) := by
  intros a0_0 a0_1 a0_2 a0_3 a1 H
  unfold laws_markLoop.f
  kernel_rfl
theorem laws_markLoop.call (k : Nat) : ∀ a0_0 a0_1 a0_2 a0_3 a1 H, callF PP orc (k + 1) laws_markLoop.id [.agg [.int .i64 a0_0, .int .i64 a0_1, .sl 1 a0_2, .sl 1 a0_3], .int .i64 a1] H = laws_markLoop.f (callF PP orc k) k a0_0 a0_1 a0_2 a0_3 a1 H := by
  intros a0_0 a0_1 a0_2 a0_3 a1 H
  rw [callF_at (fn := Go.Proofs.Try.f10) (c := laws_markLoop.body) Go.Proofs.Try.func10 (by kernel_rfl) (Nat.le_of_ble_eq_true (by kernel_rfl)), laws_markLoop.f_eq]
  kernel_rfl
noncomputable def laws_heldBoolS.body : Code := (Go.Proofs.Try.f17).body.getD .skip
noncomputable def laws_heldBoolS.j1 (rec : Rec) (k : Nat) (x1 : Int) (H : Hp) : An := some (.int .i64 x1, H)
noncomputable def laws_heldBoolS.l0 (rec : Rec) (k : Nat) : Nat → Sl → Int → Int → Hp → An
  | 0, _, _, _, _ => none
  | n + 1, x0, x1, x5, H => bif decide (x5 < (x0.len : Int)) then bif decide (0 ≤ (x5 : Int)) && decide ((x5 : Int) < x0.len) then (ldB H x0.blk (x0.off + (x5 : Int).toNat * 1)).bind fun b1 => bif !(b1 == (((x1 : Int).tmod 3) == 0)) then some (.int .i64 (-1), H) else (laws_heldBoolS.l0 rec k n) x0 (IntKind.i64.wrap (x1 + 1)) (IntKind.i64.wrap (x5 + 1)) H else none else laws_heldBoolS.j1 rec k x1 H
noncomputable def laws_heldBoolS.f (rec : Rec) (k : Nat) (a0 : Sl) (a1 : Int) (H : Hp) : An := laws_heldBoolS.l0 rec k k a0 a1 0 H
theorem laws_heldBoolS.j1_eq (rec : Rec) (k : Nat) : ∀ x1 H, laws_heldBoolS.j1 rec k x1 H = ex PP (orc laws_heldBoolS.id) rec k (sub laws_heldBoolS.body [1, 1]) (St.of 23 [(1, .int .i64 x1)] []) H (kAt PP (orc laws_heldBoolS.id) rec k laws_heldBoolS.body [1, 1] [] (K0 PP Go.Proofs.Try.f17)) := by
  intros x1 H
  unfold laws_heldBoolS.j1
  kernel_rfl
theorem laws_heldBoolS.l0_eq (rec : Rec) (k : Nat) : ∀ n x0 x1 x5 H, laws_heldBoolS.l0 rec k n x0 x1 x5 H = iter ((orc laws_heldBoolS.id).at (lbody (sub laws_heldBoolS.body [1, 0, 1, 0]))) (ex PP (orc laws_heldBoolS.id) rec k (lbody (sub laws_heldBoolS.body [1, 0, 1, 0]))) (kAt PP (orc laws_heldBoolS.id) rec k laws_heldBoolS.body [1, 0, 1, 0] [] (K0 PP Go.Proofs.Try.f17)) n (St.of 23 [(0, .sl 1 x0), (1, .int .i64 x1), (5, .int .i64 x5)] []) H := by
  intro n
  induction n with
  | zero => intros; rfl
  | succ n ih =>
    intros x0 x1 x5 H
    simp only [laws_heldBoolS.l0, laws_heldBoolS.j1_eq rec k, ih, -eq_self]
    kernel_rfl
theorem laws_heldBoolS.f_eq (rec : Rec) (k : Nat) : ∀ a0 a1 H, laws_heldBoolS.f rec k a0 a1 H = ex PP (orc laws_heldBoolS.id) rec k laws_heldBoolS.body (St.of 23 [(0, .sl 1 a0), (1, .int .i64 a1)] []) H (K0 PP Go.Proofs.Try.f17) := by
  intros a0 a1 H
  unfold laws_heldBoolS.f
  try simp only [laws_heldBoolS.l0_eq rec k, -eq_self]
  kernel_rfl
theorem laws_heldBoolS.call (k : Nat) : ∀ a0 a1 H, callF PP orc (k + 1) laws_heldBoolS.id [.sl 1 a0, .int .i64 a1] H = laws_heldBoolS.f (callF PP orc k) k a0 a1 H := by
  intros a0 a1 H
  rw [callF_at (fn := Go.Proofs.Try.f17) (c := laws_heldBoolS.body) Go.Proofs.Try.func17 (by kernel_rfl) (Nat.le_of_ble_eq_true (by kernel_rfl)), laws_heldBoolS.f_eq]
  kernel_rfl
noncomputable def laws_heldBoolSS.body : Code := (Go.Proofs.Try.f16).body.getD .skip
noncomputable def laws_heldBoolSS.j1 (rec : Rec) (k : Nat) (x1 : Int) (H : Hp) : An := some (.int .i64 x1, H)
noncomputable def laws_heldBoolSS.l0 (rec : Rec) (k : Nat) : Nat → Sl → Int → Int → Hp → An
  | 0, _, _, _, _ => none
  | n + 1, x0, x1, x5, H => bif decide (x5 < (x0.len : Int)) then bif decide (0 ≤ (x5 : Int)) && decide ((x5 : Int) < x0.len) then (ldS 1 H x0.blk (x0.off + (x5 : Int).toNat * 1)).bind fun s1 => (rec laws_heldBoolS.id [.sl 1 s1, .int .i64 x1] H).bind fun r2 => (r2.1.toI .i64).bind fun n3 => bif decide (n3 < 0) then some (.int .i64 (-1), r2.2) else (laws_heldBoolSS.l0 rec k n) x0 n3 (IntKind.i64.wrap (x5 + 1)) r2.2 else none else laws_heldBoolSS.j1 rec k x1 H
noncomputable def laws_heldBoolSS.f (rec : Rec) (k : Nat) (a0 : Sl) (a1 : Int) (H : Hp) : An := laws_heldBoolSS.l0 rec k k a0 a1 0 H
theorem laws_heldBoolSS.j1_eq (rec : Rec) (k : Nat) : ∀ x1 H, laws_heldBoolSS.j1 rec k x1 H = ex PP (orc laws_heldBoolSS.id) rec k (sub laws_heldBoolSS.body [1, 1]) (St.of 21 [(1, .int .i64 x1)] []) H (kAt PP (orc laws_heldBoolSS.id) rec k laws_heldBoolSS.body [1, 1] [] (K0 PP Go.Proofs.Try.f16)) := by
  intros x1 H
  unfold laws_heldBoolSS.j1
  kernel_rfl
theorem laws_heldBoolSS.l0_eq (rec : Rec) (k : Nat) : ∀ n x0 x1 x5 H, laws_heldBoolSS.l0 rec k n x0 x1 x5 H = iter ((orc laws_heldBoolSS.id).at (lbody (sub laws_heldBoolSS.body [1, 0, 1, 0]))) (ex PP (orc laws_heldBoolSS.id) rec k (lbody (sub laws_heldBoolSS.body [1, 0, 1, 0]))) (kAt PP (orc laws_heldBoolSS.id) rec k laws_heldBoolSS.body [1, 0, 1, 0] [] (K0 PP Go.Proofs.Try.f16)) n (St.of 21 [(0, .sl 1 x0), (1, .int .i64 x1), (5, .int .i64 x5)] []) H := by
  intro n
  induction n with
  | zero => intros; rfl
  | succ n ih =>
    intros x0 x1 x5 H
    simp only [laws_heldBoolSS.l0, laws_heldBoolSS.j1_eq rec k, ih, -eq_self]
    kernel_rfl
theorem laws_heldBoolSS.f_eq (rec : Rec) (k : Nat) : ∀ a0 a1 H, laws_heldBoolSS.f rec k a0 a1 H = ex PP (orc laws_heldBoolSS.id) rec k laws_heldBoolSS.body (St.of 21 [(0, .sl 1 a0), (1, .int .i64 a1)] []) H (K0 PP Go.Proofs.Try.f16) := by
  intros a0 a1 H
  unfold laws_heldBoolSS.f
  try simp only [laws_heldBoolSS.l0_eq rec k, -eq_self]
  kernel_rfl
theorem laws_heldBoolSS.call (k : Nat) : ∀ a0 a1 H, callF PP orc (k + 1) laws_heldBoolSS.id [.sl 1 a0, .int .i64 a1] H = laws_heldBoolSS.f (callF PP orc k) k a0 a1 H := by
  intros a0 a1 H
  rw [callF_at (fn := Go.Proofs.Try.f16) (c := laws_heldBoolSS.body) Go.Proofs.Try.func16 (by kernel_rfl) (Nat.le_of_ble_eq_true (by kernel_rfl)), laws_heldBoolSS.f_eq]
  kernel_rfl
noncomputable def laws_heldLoop.body : Code := (Go.Proofs.Try.f11).body.getD .skip
noncomputable def laws_heldLoop.f (rec : Rec) (k : Nat) (a0_0 : Int) (a0_1 : Int) (a0_2 : Sl) (a0_3 : Sl) (a1 : Int) (H : Hp) : An := (rec laws_heldBoolSS.id [.sl 1 a0_2, .int .i64 a1] H).bind fun r1 => (r1.1.toI .i64).bind fun n2 => bif decide (n2 < 0) then some (.int .i64 (-1), r1.2) else (rec laws_heldBoolSS.id [.sl 1 a0_3, .int .i64 n2] r1.2).bind fun r3 => (r3.1.toI .i64).bind fun n4 => bif decide (n4 < 0) then some (.int .i64 (-1), r3.2) else some (.int .i64 n4, r3.2)
theorem laws_heldLoop.f_eq (rec : Rec) (k : Nat) : ∀ a0_0 a0_1 a0_2 a0_3 a1 H, laws_heldLoop.f rec k a0_0 a0_1 a0_2 a0_3 a1 H = ex PP (orc laws_heldLoop.id) rec k laws_heldLoop.body (St.of 18 [(0, .agg [.int .i64 a0_0, .int .i64 a0_1, .sl 1 a0_2, .sl 1 a0_3]), (1, .int .i64 a1)] []) H (K0 PP Go.Proofs.Try.f11) := by
  intros a0_0 a0_1 a0_2 a0_3 a1 H
  unfold laws_heldLoop.f
  kernel_rfl
theorem laws_heldLoop.call (k : Nat) : ∀ a0_0 a0_1 a0_2 a0_3 a1 H, callF PP orc (k + 1) laws_heldLoop.id [.agg [.int .i64 a0_0, .int .i64 a0_1, .sl 1 a0_2, .sl 1 a0_3], .int .i64 a1] H = laws_heldLoop.f (callF PP orc k) k a0_0 a0_1 a0_2 a0_3 a1 H := by
  intros a0_0 a0_1 a0_2 a0_3 a1 H
  rw [callF_at (fn := Go.Proofs.Try.f11) (c := laws_heldLoop.body) Go.Proofs.Try.func11 (by kernel_rfl) (Nat.le_of_ble_eq_true (by kernel_rfl)), laws_heldLoop.f_eq]
  kernel_rfl
end Go.Proofs.Ytoalafkpkllebaa.Rp
