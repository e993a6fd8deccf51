/- Functions of the program as plain Lean functions. No conditions. -/
import Derived.Test.YtncmneliinbjdaaAb
import Derived.Test.YtncmneliinbjdaaOr
set_option linter.unusedVariables false
set_option linter.unusedSimpArgs false
set_option maxRecDepth 100000
namespace Go.Proofs.Ytncmneliinbjdaa.Rp
open Go Go.Proofs.Ytncmneliinbjdaa.Ab
noncomputable def laws_toIntS.body : Code := (Go.Proofs.Try.f29).body.getD .skip
def laws_toIntS.j1 (rec : Rec) (k : Nat) (x3 : Sl) (H : Hp) : An := some (.sl 1 x3, H)
def laws_toIntS.l0 (rec : Rec) (k : Nat) : Nat → Sl → Sl → Int → Hp → An
  | 0, _, _, _, _ => none
  | n + 1, x0, x3, x4, H => bif decide (x4 < (x0.len : Int)) then bif decide (0 ≤ (x4 : Int)) && decide ((x4 : Int) < x0.len) then (ldI .i64 H x0.blk (x0.off + (x4 : Int).toNat * 1)).bind fun n1 => bif decide (0 ≤ (x4 : Int)) && decide ((x4 : Int) < x3.len) then (H.sto x3.blk (x3.off + (x4 : Int).toNat * 1) [.int .i64 n1]).bind fun H2 => (laws_toIntS.l0 rec k n) x0 x3 (IntKind.i64.wrap (x4 + 1)) H2 else none else none else laws_toIntS.j1 rec k x3 H
def laws_toIntS.f (rec : Rec) (k : Nat) (a0 : Sl) (H : Hp) : An := if 0 ≤ ((a0.len : Int) : Int) ∧ ((a0.len : Int) : Int) ≤ (a0.len : Int) ∧ ((a0.len : Int) : Int) ≤ 1073741824 ∧ 8 ≤ 8192 ∧ 0 < 1 then laws_toIntS.l0 rec k k a0 (Sl.mk false H.length 0 ((a0.len : Int) : Int).toNat) 0 (H ++ [some (Blk.mk false (List.replicate ((a0.len : Int) : Int).toNat [.int .i64 0]).flatten)]) else none
theorem laws_toIntS.j1_eq (rec : Rec) (k : Nat) : ∀ x3 H, laws_toIntS.j1 rec k x3 H = ex PP (orc laws_toIntS.id) rec k (sub laws_toIntS.body [1, 1, 1]) (St.of 22 [(3, .sl 1 x3)] []) H (kAt PP (orc laws_toIntS.id) rec k laws_toIntS.body [1, 1, 1] [] (K0 PP Go.Proofs.Try.f29)) := by
  intros x3 H
  unfold laws_toIntS.j1
  kernel_rfl
theorem laws_toIntS.l0_eq (rec : Rec) (k : Nat) : ∀ n x0 x3 x4 H, laws_toIntS.l0 rec k n x0 x3 x4 H = iter ((orc laws_toIntS.id).at (lbody (sub laws_toIntS.body [1, 1, 0, 1, 0]))) (ex PP (orc laws_toIntS.id) rec k (lbody (sub laws_toIntS.body [1, 1, 0, 1, 0]))) (kAt PP (orc laws_toIntS.id) rec k laws_toIntS.body [1, 1, 0, 1, 0] [] (K0 PP Go.Proofs.Try.f29)) n (St.of 22 [(0, .sl 1 x0), (3, .sl 1 x3), (4, .int .i64 x4)] []) H := by
  intro n
  induction n with
  | zero => intros; rfl
  | succ n ih =>
    intros x0 x3 x4 H
    simp only [laws_toIntS.l0, laws_toIntS.j1_eq rec k, ih]
    kernel_rfl
theorem laws_toIntS.f_eq (rec : Rec) (k : Nat) : ∀ a0 H, laws_toIntS.f rec k a0 H = ex PP (orc laws_toIntS.id) rec k laws_toIntS.body (St.of 22 [(0, .sl 1 a0)] []) H (K0 PP Go.Proofs.Try.f29) := by
  intros a0 H
  unfold laws_toIntS.f
  try simp only [laws_toIntS.l0_eq rec k]
  kernel_rfl
theorem laws_toIntS.call (k : Nat) : ∀ a0 H, callF PP orc (k + 1) laws_toIntS.id [.sl 1 a0] H = laws_toIntS.f (callF PP orc k) k a0 H := by
  intros a0 H
  rw [callF_at (fn := Go.Proofs.Try.f29) (c := laws_toIntS.body) Go.Proofs.Try.func29 (by kernel_rfl) (Nat.le_of_ble_eq_true (by kernel_rfl)), laws_toIntS.f_eq]
  kernel_rfl
noncomputable def laws_eqIntS.body : Code := (Go.Proofs.Try.f22).body.getD .skip
def laws_eqIntS.l0 (rec : Rec) (k : Nat) : Nat → Sl → Sl → Int → Hp → An
  | 0, _, _, _, _ => none
  | n + 1, x0, x1, x5, H => bif decide (x5 < (x0.len : Int)) then bif decide (0 ≤ (x5 : Int)) && decide ((x5 : Int) < x0.len) then (ldI .i64 H x0.blk (x0.off + (x5 : Int).toNat * 1)).bind fun n1 => bif decide (0 ≤ (x5 : Int)) && decide ((x5 : Int) < x1.len) then (ldI .i64 H x1.blk (x1.off + (x5 : Int).toNat * 1)).bind fun n2 => bif n1 != n2 then some (.bool false, H) else (laws_eqIntS.l0 rec k n) x0 x1 (IntKind.i64.wrap (x5 + 1)) H else none else none else some (.bool true, H)
def laws_eqIntS.f (rec : Rec) (k : Nat) (a0 : Sl) (a1 : Sl) (H : Hp) : An := bif (a0.len : Int) != (a1.len : Int) then some (.bool false, H) else laws_eqIntS.l0 rec k k a0 a1 0 H
theorem laws_eqIntS.l0_eq (rec : Rec) (k : Nat) : ∀ n x0 x1 x5 H, laws_eqIntS.l0 rec k n x0 x1 x5 H = iter ((orc laws_eqIntS.id).at (lbody (sub laws_eqIntS.body [1, 1, 0, 1, 0]))) (ex PP (orc laws_eqIntS.id) rec k (lbody (sub laws_eqIntS.body [1, 1, 0, 1, 0]))) (kAt PP (orc laws_eqIntS.id) rec k laws_eqIntS.body [1, 1, 0, 1, 0] [] (K0 PP Go.Proofs.Try.f22)) n (St.of 26 [(0, .sl 1 x0), (1, .sl 1 x1), (5, .int .i64 x5)] []) H := by
  intro n
  induction n with
  | zero => intros; rfl
  | succ n ih =>
    intros x0 x1 x5 H
    simp only [laws_eqIntS.l0, ih]
    kernel_rfl
theorem laws_eqIntS.f_eq (rec : Rec) (k : Nat) : ∀ a0 a1 H, laws_eqIntS.f rec k a0 a1 H = ex PP (orc laws_eqIntS.id) rec k laws_eqIntS.body (St.of 26 [(0, .sl 1 a0), (1, .sl 1 a1)] []) H (K0 PP Go.Proofs.Try.f22) := by
  intros a0 a1 H
  unfold laws_eqIntS.f
  try simp only [laws_eqIntS.l0_eq rec k]
  kernel_rfl
theorem laws_eqIntS.call (k : Nat) : ∀ a0 a1 H, callF PP orc (k + 1) laws_eqIntS.id [.sl 1 a0, .sl 1 a1] H = laws_eqIntS.f (callF PP orc k) k a0 a1 H := by
  intros a0 a1 H
  rw [callF_at (fn := Go.Proofs.Try.f22) (c := laws_eqIntS.body) Go.Proofs.Try.func22 (by kernel_rfl) (Nat.le_of_ble_eq_true (by kernel_rfl)), laws_eqIntS.f_eq]
  kernel_rfl
noncomputable def laws_markIntS.body : Code := (Go.Proofs.Try.f23).body.getD .skip
def laws_markIntS.j1 (rec : Rec) (k : Nat) (x1 : Int) (H : Hp) : An := some (.int .i64 x1, H)
def laws_markIntS.l0 (rec : Rec) (k : Nat) : Nat → Sl → Int → Int → Hp → An
  | 0, _, _, _, _ => none
  | n + 1, x0, x1, x5, H => bif decide (x5 < (x0.len : Int)) then bif decide (0 ≤ (x5 : Int)) && decide ((x5 : Int) < x0.len) then (H.sto x0.blk (x0.off + (x5 : Int).toNat * 1) [.int .i64 x1]).bind fun H1 => (laws_markIntS.l0 rec k n) x0 (IntKind.i64.wrap (x1 + 1)) (IntKind.i64.wrap (x5 + 1)) H1 else none else laws_markIntS.j1 rec k x1 H
def laws_markIntS.f (rec : Rec) (k : Nat) (a0 : Sl) (a1 : Int) (H : Hp) : An := laws_markIntS.l0 rec k k a0 a1 0 H
theorem laws_markIntS.j1_eq (rec : Rec) (k : Nat) : ∀ x1 H, laws_markIntS.j1 rec k x1 H = ex PP (orc laws_markIntS.id) rec k (sub laws_markIntS.body [1, 1]) (St.of 19 [(1, .int .i64 x1)] []) H (kAt PP (orc laws_markIntS.id) rec k laws_markIntS.body [1, 1] [] (K0 PP Go.Proofs.Try.f23)) := by
  intros x1 H
  unfold laws_markIntS.j1
  kernel_rfl
theorem laws_markIntS.l0_eq (rec : Rec) (k : Nat) : ∀ n x0 x1 x5 H, laws_markIntS.l0 rec k n x0 x1 x5 H = iter ((orc laws_markIntS.id).at (lbody (sub laws_markIntS.body [1, 0, 1, 0]))) (ex PP (orc laws_markIntS.id) rec k (lbody (sub laws_markIntS.body [1, 0, 1, 0]))) (kAt PP (orc laws_markIntS.id) rec k laws_markIntS.body [1, 0, 1, 0] [] (K0 PP Go.Proofs.Try.f23)) n (St.of 19 [(0, .sl 1 x0), (1, .int .i64 x1), (5, .int .i64 x5)] []) H := by
  intro n
  induction n with
  | zero => intros; rfl
  | succ n ih =>
    intros x0 x1 x5 H
    simp only [laws_markIntS.l0, laws_markIntS.j1_eq rec k, ih]
    kernel_rfl
theorem laws_markIntS.f_eq (rec : Rec) (k : Nat) : ∀ a0 a1 H, laws_markIntS.f rec k a0 a1 H = ex PP (orc laws_markIntS.id) rec k laws_markIntS.body (St.of 19 [(0, .sl 1 a0), (1, .int .i64 a1)] []) H (K0 PP Go.Proofs.Try.f23) := by
  intros a0 a1 H
  unfold laws_markIntS.f
  try simp only [laws_markIntS.l0_eq rec k]
  kernel_rfl
theorem laws_markIntS.call (k : Nat) : ∀ a0 a1 H, callF PP orc (k + 1) laws_markIntS.id [.sl 1 a0, .int .i64 a1] H = laws_markIntS.f (callF PP orc k) k a0 a1 H := by
  intros a0 a1 H
  rw [callF_at (fn := Go.Proofs.Try.f23) (c := laws_markIntS.body) Go.Proofs.Try.func23 (by kernel_rfl) (Nat.le_of_ble_eq_true (by kernel_rfl)), laws_markIntS.f_eq]
  kernel_rfl
noncomputable def laws_heldIntS.body : Code := (Go.Proofs.Try.f24).body.getD .skip
def laws_heldIntS.j1 (rec : Rec) (k : Nat) (x1 : Int) (H : Hp) : An := some (.int .i64 x1, H)
def laws_heldIntS.l0 (rec : Rec) (k : Nat) : Nat → Sl → Int → Int → Hp → An
  | 0, _, _, _, _ => none
  | n + 1, x0, x1, x5, H => bif decide (x5 < (x0.len : Int)) then bif decide (0 ≤ (x5 : Int)) && decide ((x5 : Int) < x0.len) then (ldI .i64 H x0.blk (x0.off + (x5 : Int).toNat * 1)).bind fun n1 => bif n1 != x1 then some (.int .i64 (-1), H) else (laws_heldIntS.l0 rec k n) x0 (IntKind.i64.wrap (x1 + 1)) (IntKind.i64.wrap (x5 + 1)) H else none else laws_heldIntS.j1 rec k x1 H
def laws_heldIntS.f (rec : Rec) (k : Nat) (a0 : Sl) (a1 : Int) (H : Hp) : An := laws_heldIntS.l0 rec k k a0 a1 0 H
theorem laws_heldIntS.j1_eq (rec : Rec) (k : Nat) : ∀ x1 H, laws_heldIntS.j1 rec k x1 H = ex PP (orc laws_heldIntS.id) rec k (sub laws_heldIntS.body [1, 1]) (St.of 21 [(1, .int .i64 x1)] []) H (kAt PP (orc laws_heldIntS.id) rec k laws_heldIntS.body [1, 1] [] (K0 PP Go.Proofs.Try.f24)) := by
  intros x1 H
  unfold laws_heldIntS.j1
  kernel_rfl
theorem laws_heldIntS.l0_eq (rec : Rec) (k : Nat) : ∀ n x0 x1 x5 H, laws_heldIntS.l0 rec k n x0 x1 x5 H = iter ((orc laws_heldIntS.id).at (lbody (sub laws_heldIntS.body [1, 0, 1, 0]))) (ex PP (orc laws_heldIntS.id) rec k (lbody (sub laws_heldIntS.body [1, 0, 1, 0]))) (kAt PP (orc laws_heldIntS.id) rec k laws_heldIntS.body [1, 0, 1, 0] [] (K0 PP Go.Proofs.Try.f24)) n (St.of 21 [(0, .sl 1 x0), (1, .int .i64 x1), (5, .int .i64 x5)] []) H := by
  intro n
  induction n with
  | zero => intros; rfl
  | succ n ih =>
    intros x0 x1 x5 H
    simp only [laws_heldIntS.l0, laws_heldIntS.j1_eq rec k, ih]
    kernel_rfl
theorem laws_heldIntS.f_eq (rec : Rec) (k : Nat) : ∀ a0 a1 H, laws_heldIntS.f rec k a0 a1 H = ex PP (orc laws_heldIntS.id) rec k laws_heldIntS.body (St.of 21 [(0, .sl 1 a0), (1, .int .i64 a1)] []) H (K0 PP Go.Proofs.Try.f24) := by
  intros a0 a1 H
  unfold laws_heldIntS.f
  try simp only [laws_heldIntS.l0_eq rec k]
  kernel_rfl
theorem laws_heldIntS.call (k : Nat) : ∀ a0 a1 H, callF PP orc (k + 1) laws_heldIntS.id [.sl 1 a0, .int .i64 a1] H = laws_heldIntS.f (callF PP orc k) k a0 a1 H := by
  intros a0 a1 H
  rw [callF_at (fn := Go.Proofs.Try.f24) (c := laws_heldIntS.body) Go.Proofs.Try.func24 (by kernel_rfl) (Nat.le_of_ble_eq_true (by kernel_rfl)), laws_heldIntS.f_eq]
  kernel_rfl
noncomputable def laws_eqRule.body : Code := (Go.Proofs.Try.f55).body.getD .skip
def laws_eqRule.f (rec : Rec) (k : Nat) (a0_0 : Int) (a0_1 : Sl) (a0_2 : Int) (a1_0 : Int) (a1_1 : Sl) (a1_2 : Int) (H : Hp) : An := bif a0_0 != a1_0 then some (.bool false, H) else (rec laws_eqIntS.id [.sl 1 a0_1, .sl 1 a1_1] H).bind fun r1 => r1.1.toB.bind fun b2 => bif !b2 then some (.bool false, r1.2) else bif a0_2 != a1_2 then some (.bool false, r1.2) else some (.bool true, r1.2)
theorem laws_eqRule.f_eq (rec : Rec) (k : Nat) : ∀ a0_0 a0_1 a0_2 a1_0 a1_1 a1_2 H, laws_eqRule.f rec k a0_0 a0_1 a0_2 a1_0 a1_1 a1_2 H = ex PP (orc laws_eqRule.id) rec k laws_eqRule.body (St.of 21 [(0, .agg [.int .i64 a0_0, .sl 1 a0_1, .int .i64 a0_2]), (1, .agg [.int .i64 a1_0, .sl 1 a1_1, .int .i64 a1_2])] []) H (K0 PP Go.Proofs.Try.f55) := by
  intros a0_0 a0_1 a0_2 a1_0 a1_1 a1_2 H
  unfold laws_eqRule.f
  kernel_rfl
theorem laws_eqRule.call (k : Nat) : ∀ a0_0 a0_1 a0_2 a1_0 a1_1 a1_2 H, callF PP orc (k + 1) laws_eqRule.id [.agg [.int .i64 a0_0, .sl 1 a0_1, .int .i64 a0_2], .agg [.int .i64 a1_0, .sl 1 a1_1, .int .i64 a1_2]] H = laws_eqRule.f (callF PP orc k) k a0_0 a0_1 a0_2 a1_0 a1_1 a1_2 H := by
  intros a0_0 a0_1 a0_2 a1_0 a1_1 a1_2 H
  rw [callF_at (fn := Go.Proofs.Try.f55) (c := laws_eqRule.body) Go.Proofs.Try.func55 (by kernel_rfl) (Nat.le_of_ble_eq_true (by kernel_rfl)), laws_eqRule.f_eq]
  kernel_rfl
noncomputable def laws_eqRuleS.body : Code := (Go.Proofs.Try.f31).body.getD .skip
def laws_eqRuleS.l0 (rec : Rec) (k : Nat) : Nat → Sl → Sl → Int → Hp → An
  | 0, _, _, _, _ => none
  | n + 1, x0, x1, x5, H => bif decide (x5 < (x0.len : Int)) then bif decide (0 ≤ (x5 : Int)) && decide ((x5 : Int) < x0.len) then (ldI .i64 H x0.blk (x0.off + (x5 : Int).toNat * 3)).bind fun n1 => (ldS 1 H x0.blk (x0.off + (x5 : Int).toNat * 3 + 1)).bind fun s2 => (ldI .i64 H x0.blk (x0.off + (x5 : Int).toNat * 3 + 1 + 1)).bind fun n3 => bif decide (0 ≤ (x5 : Int)) && decide ((x5 : Int) < x1.len) then (ldI .i64 H x1.blk (x1.off + (x5 : Int).toNat * 3)).bind fun n4 => (ldS 1 H x1.blk (x1.off + (x5 : Int).toNat * 3 + 1)).bind fun s5 => (ldI .i64 H x1.blk (x1.off + (x5 : Int).toNat * 3 + 1 + 1)).bind fun n6 => (rec laws_eqRule.id [.agg [.int .i64 n1, .sl 1 s2, .int .i64 n3], .agg [.int .i64 n4, .sl 1 s5, .int .i64 n6]] H).bind fun r7 => r7.1.toB.bind fun b8 => bif !b8 then some (.bool false, r7.2) else (laws_eqRuleS.l0 rec k n) x0 x1 (IntKind.i64.wrap (x5 + 1)) r7.2 else none else none else some (.bool true, H)
def laws_eqRuleS.f (rec : Rec) (k : Nat) (a0 : Sl) (a1 : Sl) (H : Hp) : An := bif (a0.len : Int) != (a1.len : Int) then some (.bool false, H) else laws_eqRuleS.l0 rec k k a0 a1 0 H
theorem laws_eqRuleS.l0_eq (rec : Rec) (k : Nat) : ∀ n x0 x1 x5 H, laws_eqRuleS.l0 rec k n x0 x1 x5 H = iter ((orc laws_eqRuleS.id).at (lbody (sub laws_eqRuleS.body [1, 1, 0, 1, 0]))) (ex PP (orc laws_eqRuleS.id) rec k (lbody (sub laws_eqRuleS.body [1, 1, 0, 1, 0]))) (kAt PP (orc laws_eqRuleS.id) rec k laws_eqRuleS.body [1, 1, 0, 1, 0] [] (K0 PP Go.Proofs.Try.f31)) n (St.of 27 [(0, .sl 3 x0), (1, .sl 3 x1), (5, .int .i64 x5)] []) H := by
  intro n
  induction n with
  | zero => intros; rfl
  | succ n ih =>
    intros x0 x1 x5 H
    simp only [laws_eqRuleS.l0, ih]
    kernel_rfl
theorem laws_eqRuleS.f_eq (rec : Rec) (k : Nat) : ∀ a0 a1 H, laws_eqRuleS.f rec k a0 a1 H = ex PP (orc laws_eqRuleS.id) rec k laws_eqRuleS.body (St.of 27 [(0, .sl 3 a0), (1, .sl 3 a1)] []) H (K0 PP Go.Proofs.Try.f31) := by
  intros a0 a1 H
  unfold laws_eqRuleS.f
  try simp only [laws_eqRuleS.l0_eq rec k]
  kernel_rfl
theorem laws_eqRuleS.call (k : Nat) : ∀ a0 a1 H, callF PP orc (k + 1) laws_eqRuleS.id [.sl 3 a0, .sl 3 a1] H = laws_eqRuleS.f (callF PP orc k) k a0 a1 H := by
  intros a0 a1 H
  rw [callF_at (fn := Go.Proofs.Try.f31) (c := laws_eqRuleS.body) Go.Proofs.Try.func31 (by kernel_rfl) (Nat.le_of_ble_eq_true (by kernel_rfl)), laws_eqRuleS.f_eq]
  kernel_rfl
noncomputable def laws_markRuleS.body : Code := (Go.Proofs.Try.f32).body.getD .skip
def laws_markRuleS.j1 (rec : Rec) (k : Nat) (x1 : Int) (H : Hp) : An := some (.int .i64 x1, H)
def laws_markRuleS.l0 (rec : Rec) (k : Nat) : Nat → Sl → Int → Int → Hp → An
  | 0, _, _, _, _ => none
  | n + 1, x0, x1, x5, H => bif decide (x5 < (x0.len : Int)) then bif decide (0 ≤ (x5 : Int)) && decide ((x5 : Int) < x0.len) then (H.sto x0.blk (x0.off + (x5 : Int).toNat * 3 + 0) [.int .i64 x1]).bind fun H1 => bif decide (0 ≤ (x5 : Int)) && decide ((x5 : Int) < x0.len) then (ldS 1 H1 x0.blk (x0.off + (x5 : Int).toNat * 3 + 1)).bind fun s2 => (rec laws_markIntS.id [.sl 1 s2, .int .i64 (IntKind.i64.wrap (x1 + 1))] H1).bind fun r3 => (r3.1.toI .i64).bind fun n4 => bif decide (0 ≤ (x5 : Int)) && decide ((x5 : Int) < x0.len) then (r3.2.sto x0.blk (x0.off + (x5 : Int).toNat * 3 + 2) [.int .i64 n4]).bind fun H5 => (laws_markRuleS.l0 rec k n) x0 (IntKind.i64.wrap (n4 + 1)) (IntKind.i64.wrap (x5 + 1)) H5 else none else none else none else laws_markRuleS.j1 rec k x1 H
def laws_markRuleS.f (rec : Rec) (k : Nat) (a0 : Sl) (a1 : Int) (H : Hp) : An := laws_markRuleS.l0 rec k k a0 a1 0 H
theorem laws_markRuleS.j1_eq (rec : Rec) (k : Nat) : ∀ x1 H, laws_markRuleS.j1 rec k x1 H = ex PP (orc laws_markRuleS.id) rec k (sub laws_markRuleS.body [1, 1]) (St.of 34 [(1, .int .i64 x1)] []) H (kAt PP (orc laws_markRuleS.id) rec k laws_markRuleS.body [1, 1] [] (K0 PP Go.Proofs.Try.f32)) := by
  intros x1 H
  unfold laws_markRuleS.j1
  kernel_rfl
theorem laws_markRuleS.l0_eq (rec : Rec) (k : Nat) : ∀ n x0 x1 x5 H, laws_markRuleS.l0 rec k n x0 x1 x5 H = iter ((orc laws_markRuleS.id).at (lbody (sub laws_markRuleS.body [1, 0, 1, 0]))) (ex PP (orc laws_markRuleS.id) rec k (lbody (sub laws_markRuleS.body [1, 0, 1, 0]))) (kAt PP (orc laws_markRuleS.id) rec k laws_markRuleS.body [1, 0, 1, 0] [] (K0 PP Go.Proofs.Try.f32)) n (St.of 34 [(0, .sl 3 x0), (1, .int .i64 x1), (5, .int .i64 x5)] []) H := by
  intro n
  induction n with
  | zero => intros; rfl
  | succ n ih =>
    intros x0 x1 x5 H
    simp only [laws_markRuleS.l0, laws_markRuleS.j1_eq rec k, ih]
    kernel_rfl
theorem laws_markRuleS.f_eq (rec : Rec) (k : Nat) : ∀ a0 a1 H, laws_markRuleS.f rec k a0 a1 H = ex PP (orc laws_markRuleS.id) rec k laws_markRuleS.body (St.of 34 [(0, .sl 3 a0), (1, .int .i64 a1)] []) H (K0 PP Go.Proofs.Try.f32) := by
  intros a0 a1 H
  unfold laws_markRuleS.f
  try simp only [laws_markRuleS.l0_eq rec k]
  kernel_rfl
theorem laws_markRuleS.call (k : Nat) : ∀ a0 a1 H, callF PP orc (k + 1) laws_markRuleS.id [.sl 3 a0, .int .i64 a1] H = laws_markRuleS.f (callF PP orc k) k a0 a1 H := by
  intros a0 a1 H
  rw [callF_at (fn := Go.Proofs.Try.f32) (c := laws_markRuleS.body) Go.Proofs.Try.func32 (by kernel_rfl) (Nat.le_of_ble_eq_true (by kernel_rfl)), laws_markRuleS.f_eq]
  kernel_rfl
noncomputable def laws_heldRuleS.body : Code := (Go.Proofs.Try.f33).body.getD .skip
def laws_heldRuleS.j1 (rec : Rec) (k : Nat) (x1 : Int) (H : Hp) : An := some (.int .i64 x1, H)
def laws_heldRuleS.l0 (rec : Rec) (k : Nat) : Nat → Sl → Int → Int → Hp → An
  | 0, _, _, _, _ => none
  | n + 1, x0, x1, x5, H => bif decide (x5 < (x0.len : Int)) then bif decide (0 ≤ (x5 : Int)) && decide ((x5 : Int) < x0.len) then (ldI .i64 H x0.blk (x0.off + (x5 : Int).toNat * 3 + 0)).bind fun n1 => bif n1 != x1 then some (.int .i64 (-1), H) else bif decide (0 ≤ (x5 : Int)) && decide ((x5 : Int) < x0.len) then (ldS 1 H x0.blk (x0.off + (x5 : Int).toNat * 3 + 1)).bind fun s2 => (rec laws_heldIntS.id [.sl 1 s2, .int .i64 (IntKind.i64.wrap (x1 + 1))] H).bind fun r3 => (r3.1.toI .i64).bind fun n4 => bif decide (n4 < 0) then some (.int .i64 (-1), r3.2) else bif decide (0 ≤ (x5 : Int)) && decide ((x5 : Int) < x0.len) then (ldI .i64 r3.2 x0.blk (x0.off + (x5 : Int).toNat * 3 + 2)).bind fun n5 => bif n5 != n4 then some (.int .i64 (-1), r3.2) else (laws_heldRuleS.l0 rec k n) x0 (IntKind.i64.wrap (n4 + 1)) (IntKind.i64.wrap (x5 + 1)) r3.2 else none else none else none else laws_heldRuleS.j1 rec k x1 H
def laws_heldRuleS.f (rec : Rec) (k : Nat) (a0 : Sl) (a1 : Int) (H : Hp) : An := laws_heldRuleS.l0 rec k k a0 a1 0 H
theorem laws_heldRuleS.j1_eq (rec : Rec) (k : Nat) : ∀ x1 H, laws_heldRuleS.j1 rec k x1 H = ex PP (orc laws_heldRuleS.id) rec k (sub laws_heldRuleS.body [1, 1]) (St.of 40 [(1, .int .i64 x1)] []) H (kAt PP (orc laws_heldRuleS.id) rec k laws_heldRuleS.body [1, 1] [] (K0 PP Go.Proofs.Try.f33)) := by
  intros x1 H
  unfold laws_heldRuleS.j1
  kernel_rfl
theorem laws_heldRuleS.l0_eq (rec : Rec) (k : Nat) : ∀ n x0 x1 x5 H, laws_heldRuleS.l0 rec k n x0 x1 x5 H = iter ((orc laws_heldRuleS.id).at (lbody (sub laws_heldRuleS.body [1, 0, 1, 0]))) (ex PP (orc laws_heldRuleS.id) rec k (lbody (sub laws_heldRuleS.body [1, 0, 1, 0]))) (kAt PP (orc laws_heldRuleS.id) rec k laws_heldRuleS.body [1, 0, 1, 0] [] (K0 PP Go.Proofs.Try.f33)) n (St.of 40 [(0, .sl 3 x0), (1, .int .i64 x1), (5, .int .i64 x5)] []) H := by
  intro n
  induction n with
  | zero => intros; rfl
  | succ n ih =>
    intros x0 x1 x5 H
    simp only [laws_heldRuleS.l0, laws_heldRuleS.j1_eq rec k, ih]
    kernel_rfl
theorem laws_heldRuleS.f_eq (rec : Rec) (k : Nat) : ∀ a0 a1 H, laws_heldRuleS.f rec k a0 a1 H = ex PP (orc laws_heldRuleS.id) rec k laws_heldRuleS.body (St.of 40 [(0, .sl 3 a0), (1, .int .i64 a1)] []) H (K0 PP Go.Proofs.Try.f33) := by
  intros a0 a1 H
  unfold laws_heldRuleS.f
  try simp only [laws_heldRuleS.l0_eq rec k]
  kernel_rfl
theorem laws_heldRuleS.call (k : Nat) : ∀ a0 a1 H, callF PP orc (k + 1) laws_heldRuleS.id [.sl 3 a0, .int .i64 a1] H = laws_heldRuleS.f (callF PP orc k) k a0 a1 H := by
  intros a0 a1 H
  rw [callF_at (fn := Go.Proofs.Try.f33) (c := laws_heldRuleS.body) Go.Proofs.Try.func33 (by kernel_rfl) (Nat.le_of_ble_eq_true (by kernel_rfl)), laws_heldRuleS.f_eq]
  kernel_rfl
noncomputable def impl_sizeOk.body : Code := (Go.Proofs.Try.f67).body.getD .skip
def impl_sizeOk.f (rec : Rec) (k : Nat) (a0 : Int) (H : Hp) : An := bif decide (a0 ≥ 2) then some (.bool (decide (a0 ≤ 4)), H) else some (.bool false, H)
theorem impl_sizeOk.f_eq (rec : Rec) (k : Nat) : ∀ a0 H, impl_sizeOk.f rec k a0 H = ex PP (orc impl_sizeOk.id) rec k impl_sizeOk.body (St.of 9 [(0, .int .i64 a0)] []) H (K0 PP Go.Proofs.Try.f67) := by
  intros a0 H
  unfold impl_sizeOk.f
  kernel_rfl
theorem impl_sizeOk.call (k : Nat) : ∀ a0 H, callF PP orc (k + 1) impl_sizeOk.id [.int .i64 a0] H = impl_sizeOk.f (callF PP orc k) k a0 H := by
  intros a0 H
  rw [callF_at (fn := Go.Proofs.Try.f67) (c := impl_sizeOk.body) Go.Proofs.Try.func67 (by kernel_rfl) (Nat.le_of_ble_eq_true (by kernel_rfl)), impl_sizeOk.f_eq]
  kernel_rfl
noncomputable def spec_l1In.body : Code := (Go.Proofs.Try.f40).body.getD .skip
def spec_l1In.f (rec : Rec) (k : Nat) (a0 : Int) (a1 : Int) (a2 : Int) (H : Hp) : An := bif decide (a0 ≥ a1) then some (.bool (decide (a0 ≤ a2)), H) else some (.bool false, H)
theorem spec_l1In.f_eq (rec : Rec) (k : Nat) : ∀ a0 a1 a2 H, spec_l1In.f rec k a0 a1 a2 H = ex PP (orc spec_l1In.id) rec k spec_l1In.body (St.of 15 [(0, .int .i64 a0), (1, .int .i64 a1), (2, .int .i64 a2)] []) H (K0 PP Go.Proofs.Try.f40) := by
  intros a0 a1 a2 H
  unfold spec_l1In.f
  kernel_rfl
theorem spec_l1In.call (k : Nat) : ∀ a0 a1 a2 H, callF PP orc (k + 1) spec_l1In.id [.int .i64 a0, .int .i64 a1, .int .i64 a2] H = spec_l1In.f (callF PP orc k) k a0 a1 a2 H := by
  intros a0 a1 a2 H
  rw [callF_at (fn := Go.Proofs.Try.f40) (c := spec_l1In.body) Go.Proofs.Try.func40 (by kernel_rfl) (Nat.le_of_ble_eq_true (by kernel_rfl)), spec_l1In.f_eq]
  kernel_rfl
noncomputable def impl_GridValid.body : Code := (Go.Proofs.Try.f74).body.getD .skip
def impl_GridValid.j4 (rec : Rec) (k : Nat) (L2 : Int → Sl → Int → Int → Hp → An) (x1 : Int) (x18 : Sl) (x19 : Int) (x20 : Int) (H : Hp) : An := L2 x1 x18 x19 (IntKind.i64.wrap (x20 + 1)) H
def impl_GridValid.j3 (rec : Rec) (k : Nat) (L2 : Int → Sl → Int → Int → Hp → An) (x1 : Int) (x18 : Sl) (x19 : Int) (x20 : Int) (x30 : Bool) (H : Hp) : An := bif x30 then some (.bool false, H) else impl_GridValid.j4 rec k L2 x1 x18 x19 x20 H
def impl_GridValid.l2 (rec : Rec) (k : Nat) : Nat → Int → Sl → Int → Int → Hp → An
  | 0, _, _, _, _, _ => none
  | n + 1, x1, x18, x19, x20, H => bif decide (x20 < x19) then bif decide (0 ≤ (x20 : Int)) && decide ((x20 : Int) < x18.len) then (ldI .i64 H x18.blk (x18.off + (x20 : Int).toNat * 1)).bind fun n3 => bif decide (n3 < 0) then impl_GridValid.j3 rec k (impl_GridValid.l2 rec k n) x1 x18 x19 x20 true H else impl_GridValid.j3 rec k (impl_GridValid.l2 rec k n) x1 x18 x19 x20 (decide (n3 > x1)) H else none else some (.bool true, H)
def impl_GridValid.j1 (rec : Rec) (k : Nat) (x0 : Sl) (x1 : Int) (H : Hp) : An := impl_GridValid.l2 rec k k x1 x0 (x0.len : Int) 0 H
def impl_GridValid.j0 (rec : Rec) (k : Nat) (x0 : Sl) (x1 : Int) (x17 : Bool) (H : Hp) : An := bif x17 then some (.bool false, H) else impl_GridValid.j1 rec k x0 x1 H
def impl_GridValid.f (rec : Rec) (k : Nat) (a0 : Sl) (a1 : Int) (H : Hp) : An := (rec impl_sizeOk.id [.int .i64 a1] H).bind fun r1 => r1.1.toB.bind fun b2 => bif !b2 then impl_GridValid.j0 rec k a0 a1 true r1.2 else impl_GridValid.j0 rec k a0 a1 ((a0.len : Int) != (IntKind.i64.wrap (a1 * a1))) r1.2
theorem impl_GridValid.j4_eq (rec : Rec) (k : Nat) (n2 : Nat) (L2 : Int → Sl → Int → Int → Hp → An) (hL2 : ∀ x1 x18 x19 x20 H, L2 x1 x18 x19 x20 H = iter ((orc impl_GridValid.id).at (lbody (sub impl_GridValid.body [1, 1, 0, 1, 0]))) (ex PP (orc impl_GridValid.id) rec k (lbody (sub impl_GridValid.body [1, 1, 0, 1, 0]))) (kAt PP (orc impl_GridValid.id) rec k impl_GridValid.body [1, 1, 0, 1, 0] [] (K0 PP Go.Proofs.Try.f74)) n2 (St.of 32 [(1, .int .i64 x1), (18, .sl 1 x18), (19, .int .i64 x19), (20, .int .i64 x20)] []) H) : ∀ x1 x18 x19 x20 H, impl_GridValid.j4 rec k L2 x1 x18 x19 x20 H = ex PP (orc impl_GridValid.id) rec k (sub impl_GridValid.body [1, 1, 0, 1, 0, 0, 1, 1, 1]) (St.of 32 [(1, .int .i64 x1), (18, .sl 1 x18), (19, .int .i64 x19), (20, .int .i64 x20)] []) H (kAt PP (orc impl_GridValid.id) rec k impl_GridValid.body [1, 1, 0, 1, 0, 0, 1, 1, 1] [n2] (K0 PP Go.Proofs.Try.f74)) := by
  intros x1 x18 x19 x20 H
  unfold impl_GridValid.j4
  try simp only [hL2]
  kernel_rfl
theorem impl_GridValid.j3_eq (rec : Rec) (k : Nat) (n2 : Nat) (L2 : Int → Sl → Int → Int → Hp → An) (hL2 : ∀ x1 x18 x19 x20 H, L2 x1 x18 x19 x20 H = iter ((orc impl_GridValid.id).at (lbody (sub impl_GridValid.body [1, 1, 0, 1, 0]))) (ex PP (orc impl_GridValid.id) rec k (lbody (sub impl_GridValid.body [1, 1, 0, 1, 0]))) (kAt PP (orc impl_GridValid.id) rec k impl_GridValid.body [1, 1, 0, 1, 0] [] (K0 PP Go.Proofs.Try.f74)) n2 (St.of 32 [(1, .int .i64 x1), (18, .sl 1 x18), (19, .int .i64 x19), (20, .int .i64 x20)] []) H) : ∀ x1 x18 x19 x20 x30 H, impl_GridValid.j3 rec k L2 x1 x18 x19 x20 x30 H = ex PP (orc impl_GridValid.id) rec k (sub impl_GridValid.body [1, 1, 0, 1, 0, 0, 1, 1, 0, 0, 1, 1]) (St.of 32 [(1, .int .i64 x1), (18, .sl 1 x18), (19, .int .i64 x19), (20, .int .i64 x20), (30, .bool x30)] []) H (kAt PP (orc impl_GridValid.id) rec k impl_GridValid.body [1, 1, 0, 1, 0, 0, 1, 1, 0, 0, 1, 1] [n2] (K0 PP Go.Proofs.Try.f74)) := by
  intros x1 x18 x19 x20 x30 H
  unfold impl_GridValid.j3
  try simp only [hL2, impl_GridValid.j4_eq rec k n2 L2 hL2]
  kernel_rfl
theorem impl_GridValid.l2_eq (rec : Rec) (k : Nat) : ∀ n x1 x18 x19 x20 H, impl_GridValid.l2 rec k n x1 x18 x19 x20 H = iter ((orc impl_GridValid.id).at (lbody (sub impl_GridValid.body [1, 1, 0, 1, 0]))) (ex PP (orc impl_GridValid.id) rec k (lbody (sub impl_GridValid.body [1, 1, 0, 1, 0]))) (kAt PP (orc impl_GridValid.id) rec k impl_GridValid.body [1, 1, 0, 1, 0] [] (K0 PP Go.Proofs.Try.f74)) n (St.of 32 [(1, .int .i64 x1), (18, .sl 1 x18), (19, .int .i64 x19), (20, .int .i64 x20)] []) H := by
  intro n
  induction n with
  | zero => intros; rfl
  | succ n ih =>
    intros x1 x18 x19 x20 H
    simp only [impl_GridValid.l2, impl_GridValid.j3_eq rec k n (impl_GridValid.l2 rec k n) (fun x1 x18 x19 x20 H => ih x1 x18 x19 x20 H), ih]
    kernel_rfl
theorem impl_GridValid.j1_eq (rec : Rec) (k : Nat) : ∀ x0 x1 H, impl_GridValid.j1 rec k x0 x1 H = ex PP (orc impl_GridValid.id) rec k (sub impl_GridValid.body [1, 1]) (St.of 32 [(0, .sl 1 x0), (1, .int .i64 x1)] []) H (kAt PP (orc impl_GridValid.id) rec k impl_GridValid.body [1, 1] [] (K0 PP Go.Proofs.Try.f74)) := by
  intros x0 x1 H
  unfold impl_GridValid.j1
  try simp only [impl_GridValid.l2_eq rec k]
  kernel_rfl
theorem impl_GridValid.j0_eq (rec : Rec) (k : Nat) : ∀ x0 x1 x17 H, impl_GridValid.j0 rec k x0 x1 x17 H = ex PP (orc impl_GridValid.id) rec k (sub impl_GridValid.body [1, 0, 1]) (St.of 32 [(0, .sl 1 x0), (1, .int .i64 x1), (17, .bool x17)] []) H (kAt PP (orc impl_GridValid.id) rec k impl_GridValid.body [1, 0, 1] [] (K0 PP Go.Proofs.Try.f74)) := by
  intros x0 x1 x17 H
  unfold impl_GridValid.j0
  try simp only [impl_GridValid.j1_eq rec k]
  kernel_rfl
theorem impl_GridValid.f_eq (rec : Rec) (k : Nat) : ∀ a0 a1 H, impl_GridValid.f rec k a0 a1 H = ex PP (orc impl_GridValid.id) rec k impl_GridValid.body (St.of 32 [(0, .sl 1 a0), (1, .int .i64 a1)] []) H (K0 PP Go.Proofs.Try.f74) := by
  intros a0 a1 H
  unfold impl_GridValid.f
  try simp only [impl_GridValid.j0_eq rec k]
  kernel_rfl
theorem impl_GridValid.call (k : Nat) : ∀ a0 a1 H, callF PP orc (k + 1) impl_GridValid.id [.sl 1 a0, .int .i64 a1] H = impl_GridValid.f (callF PP orc k) k a0 a1 H := by
  intros a0 a1 H
  rw [callF_at (fn := Go.Proofs.Try.f74) (c := impl_GridValid.body) Go.Proofs.Try.func74 (by kernel_rfl) (Nat.le_of_ble_eq_true (by kernel_rfl)), impl_GridValid.f_eq]
  kernel_rfl
noncomputable def spec_GridValid.body : Code := (Go.Proofs.Try.f72).body.getD .skip
def spec_GridValid.j1 (rec : Rec) (k : Nat) (x0 : Sl) (x1 : Int) (H : Hp) : An := (rec spec_l1In.id [.int .i64 x1, .int .i64 2, .int .i64 4] H).bind fun r4 => r4.1.toB.bind fun b5 => bif b5 then some (.bool ((x0.len : Int) == (IntKind.i64.wrap (x1 * x1))), r4.2) else some (.bool false, r4.2)
def spec_GridValid.l0 (rec : Rec) (k : Nat) : Nat → Sl → Int → Int → Hp → An
  | 0, _, _, _, _ => none
  | n + 1, x0, x1, x5, H => bif decide (x5 < (x0.len : Int)) then bif decide (0 ≤ (x5 : Int)) && decide ((x5 : Int) < x0.len) then (ldI .i64 H x0.blk (x0.off + (x5 : Int).toNat * 1)).bind fun n1 => (rec spec_l1In.id [.int .i64 n1, .int .i64 0, .int .i64 x1] H).bind fun r2 => r2.1.toB.bind fun b3 => bif !b3 then some (.bool false, r2.2) else (spec_GridValid.l0 rec k n) x0 x1 (IntKind.i64.wrap (x5 + 1)) r2.2 else none else spec_GridValid.j1 rec k x0 x1 H
def spec_GridValid.f (rec : Rec) (k : Nat) (a0 : Sl) (a1 : Int) (H : Hp) : An := spec_GridValid.l0 rec k k a0 a1 0 H
theorem spec_GridValid.j1_eq (rec : Rec) (k : Nat) : ∀ x0 x1 H, spec_GridValid.j1 rec k x0 x1 H = ex PP (orc spec_GridValid.id) rec k (sub spec_GridValid.body [1, 1]) (St.of 29 [(0, .sl 1 x0), (1, .int .i64 x1)] []) H (kAt PP (orc spec_GridValid.id) rec k spec_GridValid.body [1, 1] [] (K0 PP Go.Proofs.Try.f72)) := by
  intros x0 x1 H
  unfold spec_GridValid.j1
  kernel_rfl
theorem spec_GridValid.l0_eq (rec : Rec) (k : Nat) : ∀ n x0 x1 x5 H, spec_GridValid.l0 rec k n x0 x1 x5 H = iter ((orc spec_GridValid.id).at (lbody (sub spec_GridValid.body [1, 0, 1, 0]))) (ex PP (orc spec_GridValid.id) rec k (lbody (sub spec_GridValid.body [1, 0, 1, 0]))) (kAt PP (orc spec_GridValid.id) rec k spec_GridValid.body [1, 0, 1, 0] [] (K0 PP Go.Proofs.Try.f72)) n (St.of 29 [(0, .sl 1 x0), (1, .int .i64 x1), (5, .int .i64 x5)] []) H := by
  intro n
  induction n with
  | zero => intros; rfl
  | succ n ih =>
    intros x0 x1 x5 H
    simp only [spec_GridValid.l0, spec_GridValid.j1_eq rec k, ih]
    kernel_rfl
theorem spec_GridValid.f_eq (rec : Rec) (k : Nat) : ∀ a0 a1 H, spec_GridValid.f rec k a0 a1 H = ex PP (orc spec_GridValid.id) rec k spec_GridValid.body (St.of 29 [(0, .sl 1 a0), (1, .int .i64 a1)] []) H (K0 PP Go.Proofs.Try.f72) := by
  intros a0 a1 H
  unfold spec_GridValid.f
  try simp only [spec_GridValid.l0_eq rec k]
  kernel_rfl
theorem spec_GridValid.call (k : Nat) : ∀ a0 a1 H, callF PP orc (k + 1) spec_GridValid.id [.sl 1 a0, .int .i64 a1] H = spec_GridValid.f (callF PP orc k) k a0 a1 H := by
  intros a0 a1 H
  rw [callF_at (fn := Go.Proofs.Try.f72) (c := spec_GridValid.body) Go.Proofs.Try.func72 (by kernel_rfl) (Nat.le_of_ble_eq_true (by kernel_rfl)), spec_GridValid.f_eq]
  kernel_rfl
noncomputable def impl_GridFilled.body : Code := (Go.Proofs.Try.f71).body.getD .skip
def impl_GridFilled.j1 (rec : Rec) (k : Nat) (L0 : Int → Sl → Int → Int → Hp → An) (x5 : Int) (x12 : Sl) (x13 : Int) (x14 : Int) (H : Hp) : An := L0 x5 x12 x13 (IntKind.i64.wrap (x14 + 1)) H
def impl_GridFilled.j2 (rec : Rec) (k : Nat) (x5 : Int) (H : Hp) : An := some (.int .i64 x5, H)
def impl_GridFilled.l0 (rec : Rec) (k : Nat) : Nat → Int → Sl → Int → Int → Hp → An
  | 0, _, _, _, _, _ => none
  | n + 1, x5, x12, x13, x14, H => bif decide (x14 < x13) then bif decide (0 ≤ (x14 : Int)) && decide ((x14 : Int) < x12.len) then (ldI .i64 H x12.blk (x12.off + (x14 : Int).toNat * 1)).bind fun n3 => bif decide (n3 > 0) then impl_GridFilled.j1 rec k (impl_GridFilled.l0 rec k n) (IntKind.i64.wrap (x5 + 1)) x12 x13 x14 H else impl_GridFilled.j1 rec k (impl_GridFilled.l0 rec k n) x5 x12 x13 x14 H else none else impl_GridFilled.j2 rec k x5 H
def impl_GridFilled.f (rec : Rec) (k : Nat) (a0 : Sl) (a1 : Int) (H : Hp) : An := (rec impl_GridValid.id [.sl 1 a0, .int .i64 a1] H).bind fun r1 => r1.1.toB.bind fun b2 => bif !b2 then some (.int .i64 (-1), r1.2) else impl_GridFilled.l0 rec k k 0 a0 (a0.len : Int) 0 r1.2
theorem impl_GridFilled.j1_eq (rec : Rec) (k : Nat) (n0 : Nat) (L0 : Int → Sl → Int → Int → Hp → An) (hL0 : ∀ x5 x12 x13 x14 H, L0 x5 x12 x13 x14 H = iter ((orc impl_GridFilled.id).at (lbody (sub impl_GridFilled.body [1, 1, 1, 0, 1, 0]))) (ex PP (orc impl_GridFilled.id) rec k (lbody (sub impl_GridFilled.body [1, 1, 1, 0, 1, 0]))) (kAt PP (orc impl_GridFilled.id) rec k impl_GridFilled.body [1, 1, 1, 0, 1, 0] [] (K0 PP Go.Proofs.Try.f71)) n0 (St.of 24 [(5, .int .i64 x5), (12, .sl 1 x12), (13, .int .i64 x13), (14, .int .i64 x14)] []) H) : ∀ x5 x12 x13 x14 H, impl_GridFilled.j1 rec k L0 x5 x12 x13 x14 H = ex PP (orc impl_GridFilled.id) rec k (sub impl_GridFilled.body [1, 1, 1, 0, 1, 0, 0, 1, 1, 1]) (St.of 24 [(5, .int .i64 x5), (12, .sl 1 x12), (13, .int .i64 x13), (14, .int .i64 x14)] []) H (kAt PP (orc impl_GridFilled.id) rec k impl_GridFilled.body [1, 1, 1, 0, 1, 0, 0, 1, 1, 1] [n0] (K0 PP Go.Proofs.Try.f71)) := by
  intros x5 x12 x13 x14 H
  unfold impl_GridFilled.j1
  try simp only [hL0]
  kernel_rfl
theorem impl_GridFilled.j2_eq (rec : Rec) (k : Nat) : ∀ x5 H, impl_GridFilled.j2 rec k x5 H = ex PP (orc impl_GridFilled.id) rec k (sub impl_GridFilled.body [1, 1, 1, 1]) (St.of 24 [(5, .int .i64 x5)] []) H (kAt PP (orc impl_GridFilled.id) rec k impl_GridFilled.body [1, 1, 1, 1] [] (K0 PP Go.Proofs.Try.f71)) := by
  intros x5 H
  unfold impl_GridFilled.j2
  kernel_rfl
theorem impl_GridFilled.l0_eq (rec : Rec) (k : Nat) : ∀ n x5 x12 x13 x14 H, impl_GridFilled.l0 rec k n x5 x12 x13 x14 H = iter ((orc impl_GridFilled.id).at (lbody (sub impl_GridFilled.body [1, 1, 1, 0, 1, 0]))) (ex PP (orc impl_GridFilled.id) rec k (lbody (sub impl_GridFilled.body [1, 1, 1, 0, 1, 0]))) (kAt PP (orc impl_GridFilled.id) rec k impl_GridFilled.body [1, 1, 1, 0, 1, 0] [] (K0 PP Go.Proofs.Try.f71)) n (St.of 24 [(5, .int .i64 x5), (12, .sl 1 x12), (13, .int .i64 x13), (14, .int .i64 x14)] []) H := by
  intro n
  induction n with
  | zero => intros; rfl
  | succ n ih =>
    intros x5 x12 x13 x14 H
    simp only [impl_GridFilled.l0, impl_GridFilled.j1_eq rec k n (impl_GridFilled.l0 rec k n) (fun x5 x12 x13 x14 H => ih x5 x12 x13 x14 H), impl_GridFilled.j2_eq rec k, ih]
    kernel_rfl
theorem impl_GridFilled.f_eq (rec : Rec) (k : Nat) : ∀ a0 a1 H, impl_GridFilled.f rec k a0 a1 H = ex PP (orc impl_GridFilled.id) rec k impl_GridFilled.body (St.of 24 [(0, .sl 1 a0), (1, .int .i64 a1)] []) H (K0 PP Go.Proofs.Try.f71) := by
  intros a0 a1 H
  unfold impl_GridFilled.f
  try simp only [impl_GridFilled.l0_eq rec k]
  kernel_rfl
theorem impl_GridFilled.call (k : Nat) : ∀ a0 a1 H, callF PP orc (k + 1) impl_GridFilled.id [.sl 1 a0, .int .i64 a1] H = impl_GridFilled.f (callF PP orc k) k a0 a1 H := by
  intros a0 a1 H
  rw [callF_at (fn := Go.Proofs.Try.f71) (c := impl_GridFilled.body) Go.Proofs.Try.func71 (by kernel_rfl) (Nat.le_of_ble_eq_true (by kernel_rfl)), impl_GridFilled.f_eq]
  kernel_rfl
noncomputable def spec_GridFilled.body : Code := (Go.Proofs.Try.f69).body.getD .skip
def spec_GridFilled.j1 (rec : Rec) (k : Nat) (L0 : Sl → Int → Int → Hp → An) (x0 : Sl) (x5 : Int) (x6 : Int) (H : Hp) : An := L0 x0 x5 (IntKind.i64.wrap (x6 + 1)) H
def spec_GridFilled.j2 (rec : Rec) (k : Nat) (x5 : Int) (H : Hp) : An := some (.int .i64 x5, H)
def spec_GridFilled.l0 (rec : Rec) (k : Nat) : Nat → Sl → Int → Int → Hp → An
  | 0, _, _, _, _ => none
  | n + 1, x0, x5, x6, H => bif decide (x6 < (x0.len : Int)) then bif decide (0 ≤ (x6 : Int)) && decide ((x6 : Int) < x0.len) then (ldI .i64 H x0.blk (x0.off + (x6 : Int).toNat * 1)).bind fun n3 => bif decide (n3 > 0) then spec_GridFilled.j1 rec k (spec_GridFilled.l0 rec k n) x0 (IntKind.i64.wrap (x5 + 1)) x6 H else spec_GridFilled.j1 rec k (spec_GridFilled.l0 rec k n) x0 x5 x6 H else none else spec_GridFilled.j2 rec k x5 H
def spec_GridFilled.f (rec : Rec) (k : Nat) (a0 : Sl) (a1 : Int) (H : Hp) : An := (rec spec_GridValid.id [.sl 1 a0, .int .i64 a1] H).bind fun r1 => r1.1.toB.bind fun b2 => bif !b2 then some (.int .i64 (-1), r1.2) else spec_GridFilled.l0 rec k k a0 0 0 r1.2
theorem spec_GridFilled.j1_eq (rec : Rec) (k : Nat) (n0 : Nat) (L0 : Sl → Int → Int → Hp → An) (hL0 : ∀ x0 x5 x6 H, L0 x0 x5 x6 H = iter ((orc spec_GridFilled.id).at (lbody (sub spec_GridFilled.body [1, 1, 1, 0, 1, 0]))) (ex PP (orc spec_GridFilled.id) rec k (lbody (sub spec_GridFilled.body [1, 1, 1, 0, 1, 0]))) (kAt PP (orc spec_GridFilled.id) rec k spec_GridFilled.body [1, 1, 1, 0, 1, 0] [] (K0 PP Go.Proofs.Try.f69)) n0 (St.of 25 [(0, .sl 1 x0), (5, .int .i64 x5), (6, .int .i64 x6)] []) H) : ∀ x0 x5 x6 H, spec_GridFilled.j1 rec k L0 x0 x5 x6 H = ex PP (orc spec_GridFilled.id) rec k (sub spec_GridFilled.body [1, 1, 1, 0, 1, 0, 0, 1, 1]) (St.of 25 [(0, .sl 1 x0), (5, .int .i64 x5), (6, .int .i64 x6)] []) H (kAt PP (orc spec_GridFilled.id) rec k spec_GridFilled.body [1, 1, 1, 0, 1, 0, 0, 1, 1] [n0] (K0 PP Go.Proofs.Try.f69)) := by
  intros x0 x5 x6 H
  unfold spec_GridFilled.j1
  try simp only [hL0]
  kernel_rfl
theorem spec_GridFilled.j2_eq (rec : Rec) (k : Nat) : ∀ x5 H, spec_GridFilled.j2 rec k x5 H = ex PP (orc spec_GridFilled.id) rec k (sub spec_GridFilled.body [1, 1, 1, 1]) (St.of 25 [(5, .int .i64 x5)] []) H (kAt PP (orc spec_GridFilled.id) rec k spec_GridFilled.body [1, 1, 1, 1] [] (K0 PP Go.Proofs.Try.f69)) := by
  intros x5 H
  unfold spec_GridFilled.j2
  kernel_rfl
theorem spec_GridFilled.l0_eq (rec : Rec) (k : Nat) : ∀ n x0 x5 x6 H, spec_GridFilled.l0 rec k n x0 x5 x6 H = iter ((orc spec_GridFilled.id).at (lbody (sub spec_GridFilled.body [1, 1, 1, 0, 1, 0]))) (ex PP (orc spec_GridFilled.id) rec k (lbody (sub spec_GridFilled.body [1, 1, 1, 0, 1, 0]))) (kAt PP (orc spec_GridFilled.id) rec k spec_GridFilled.body [1, 1, 1, 0, 1, 0] [] (K0 PP Go.Proofs.Try.f69)) n (St.of 25 [(0, .sl 1 x0), (5, .int .i64 x5), (6, .int .i64 x6)] []) H := by
  intro n
  induction n with
  | zero => intros; rfl
  | succ n ih =>
    intros x0 x5 x6 H
    simp only [spec_GridFilled.l0, spec_GridFilled.j1_eq rec k n (spec_GridFilled.l0 rec k n) (fun x0 x5 x6 H => ih x0 x5 x6 H), spec_GridFilled.j2_eq rec k, ih]
    kernel_rfl
theorem spec_GridFilled.f_eq (rec : Rec) (k : Nat) : ∀ a0 a1 H, spec_GridFilled.f rec k a0 a1 H = ex PP (orc spec_GridFilled.id) rec k spec_GridFilled.body (St.of 25 [(0, .sl 1 a0), (1, .int .i64 a1)] []) H (K0 PP Go.Proofs.Try.f69) := by
  intros a0 a1 H
  unfold spec_GridFilled.f
  try simp only [spec_GridFilled.l0_eq rec k]
  kernel_rfl
theorem spec_GridFilled.call (k : Nat) : ∀ a0 a1 H, callF PP orc (k + 1) spec_GridFilled.id [.sl 1 a0, .int .i64 a1] H = spec_GridFilled.f (callF PP orc k) k a0 a1 H := by
  intros a0 a1 H
  rw [callF_at (fn := Go.Proofs.Try.f69) (c := spec_GridFilled.body) Go.Proofs.Try.func69 (by kernel_rfl) (Nat.le_of_ble_eq_true (by kernel_rfl)), spec_GridFilled.f_eq]
  kernel_rfl
noncomputable def impl_LineCells.body : Code := (Go.Proofs.Try.f75).body.getD .skip
def impl_LineCells.j3 (rec : Rec) (k : Nat) (L2 : Int → Int → Sl → Int → Int → Hp → An) (x0 : Int) (x1 : Int) (x5 : Sl) (x22 : Int) (x23 : Int) (H : Hp) : An := L2 x0 x1 x5 x22 (IntKind.i64.wrap (x23 + 1)) H
def impl_LineCells.j4 (rec : Rec) (k : Nat) (x5 : Sl) (H : Hp) : An := some (.sl 1 x5, H)
def impl_LineCells.l2 (rec : Rec) (k : Nat) : Nat → Int → Int → Sl → Int → Int → Hp → An
  | 0, _, _, _, _, _, _ => none
  | n + 1, x0, x1, x5, x22, x23, H => bif decide (x23 < x22) then bif decide (x1 < x0) then (H.app 1 x5 1 [.int .i64 (IntKind.i64.wrap ((IntKind.i64.wrap (x1 * x0)) + x23))]).bind fun a3 => impl_LineCells.j3 rec k (impl_LineCells.l2 rec k n) x0 x1 a3.1 x22 x23 a3.2 else (H.app 1 x5 1 [.int .i64 (IntKind.i64.wrap ((IntKind.i64.wrap ((IntKind.i64.wrap (x23 * x0)) + x1)) - x0))]).bind fun a4 => impl_LineCells.j3 rec k (impl_LineCells.l2 rec k n) x0 x1 a4.1 x22 x23 a4.2 else impl_LineCells.j4 rec k x5 H
def impl_LineCells.j1 (rec : Rec) (k : Nat) (x0 : Int) (x1 : Int) (H : Hp) : An := if 0 ≤ (0 : Int) ∧ (0 : Int) ≤ x0 ∧ (x0 : Int) ≤ 1073741824 ∧ 8 ≤ 8192 ∧ 0 < 1 then impl_LineCells.l2 rec k k x0 x1 (Sl.mk false H.length 0 (0 : Int).toNat) x0 0 (H ++ [some (Blk.mk false (List.replicate (0 : Int).toNat [.int .i64 0]).flatten)]) else none
def impl_LineCells.j0 (rec : Rec) (k : Nat) (x0 : Int) (x1 : Int) (x19 : Bool) (H : Hp) : An := bif x19 then some (.sl 1 Sl.none, H) else impl_LineCells.j1 rec k x0 x1 H
def impl_LineCells.f (rec : Rec) (k : Nat) (a0 : Int) (a1 : Int) (H : Hp) : An := (rec impl_sizeOk.id [.int .i64 a0] H).bind fun r1 => r1.1.toB.bind fun b2 => bif !b2 then impl_LineCells.j0 rec k a0 a1 true r1.2 else bif decide (a1 < 0) then impl_LineCells.j0 rec k a0 a1 true r1.2 else impl_LineCells.j0 rec k a0 a1 (decide (a1 ≥ (IntKind.i64.wrap (2 * a0)))) r1.2
theorem impl_LineCells.j3_eq (rec : Rec) (k : Nat) (n2 : Nat) (L2 : Int → Int → Sl → Int → Int → Hp → An) (hL2 : ∀ x0 x1 x5 x22 x23 H, L2 x0 x1 x5 x22 x23 H = iter ((orc impl_LineCells.id).at (lbody (sub impl_LineCells.body [1, 1, 1, 0, 1, 0]))) (ex PP (orc impl_LineCells.id) rec k (lbody (sub impl_LineCells.body [1, 1, 1, 0, 1, 0]))) (kAt PP (orc impl_LineCells.id) rec k impl_LineCells.body [1, 1, 1, 0, 1, 0] [] (K0 PP Go.Proofs.Try.f75)) n2 (St.of 49 [(0, .int .i64 x0), (1, .int .i64 x1), (5, .sl 1 x5), (22, .int .i64 x22), (23, .int .i64 x23)] []) H) : ∀ x0 x1 x5 x22 x23 H, impl_LineCells.j3 rec k L2 x0 x1 x5 x22 x23 H = ex PP (orc impl_LineCells.id) rec k (sub impl_LineCells.body [1, 1, 1, 0, 1, 0, 0, 1, 1, 1]) (St.of 49 [(0, .int .i64 x0), (1, .int .i64 x1), (5, .sl 1 x5), (22, .int .i64 x22), (23, .int .i64 x23)] []) H (kAt PP (orc impl_LineCells.id) rec k impl_LineCells.body [1, 1, 1, 0, 1, 0, 0, 1, 1, 1] [n2] (K0 PP Go.Proofs.Try.f75)) := by
  intros x0 x1 x5 x22 x23 H
  unfold impl_LineCells.j3
  try simp only [hL2]
  kernel_rfl
theorem impl_LineCells.j4_eq (rec : Rec) (k : Nat) : ∀ x5 H, impl_LineCells.j4 rec k x5 H = ex PP (orc impl_LineCells.id) rec k (sub impl_LineCells.body [1, 1, 1, 1]) (St.of 49 [(5, .sl 1 x5)] []) H (kAt PP (orc impl_LineCells.id) rec k impl_LineCells.body [1, 1, 1, 1] [] (K0 PP Go.Proofs.Try.f75)) := by
  intros x5 H
  unfold impl_LineCells.j4
  kernel_rfl
theorem impl_LineCells.l2_eq (rec : Rec) (k : Nat) : ∀ n x0 x1 x5 x22 x23 H, impl_LineCells.l2 rec k n x0 x1 x5 x22 x23 H = iter ((orc impl_LineCells.id).at (lbody (sub impl_LineCells.body [1, 1, 1, 0, 1, 0]))) (ex PP (orc impl_LineCells.id) rec k (lbody (sub impl_LineCells.body [1, 1, 1, 0, 1, 0]))) (kAt PP (orc impl_LineCells.id) rec k impl_LineCells.body [1, 1, 1, 0, 1, 0] [] (K0 PP Go.Proofs.Try.f75)) n (St.of 49 [(0, .int .i64 x0), (1, .int .i64 x1), (5, .sl 1 x5), (22, .int .i64 x22), (23, .int .i64 x23)] []) H := by
  intro n
  induction n with
  | zero => intros; rfl
  | succ n ih =>
    intros x0 x1 x5 x22 x23 H
    simp only [impl_LineCells.l2, impl_LineCells.j3_eq rec k n (impl_LineCells.l2 rec k n) (fun x0 x1 x5 x22 x23 H => ih x0 x1 x5 x22 x23 H), impl_LineCells.j4_eq rec k, ih]
    kernel_rfl
theorem impl_LineCells.j1_eq (rec : Rec) (k : Nat) : ∀ x0 x1 H, impl_LineCells.j1 rec k x0 x1 H = ex PP (orc impl_LineCells.id) rec k (sub impl_LineCells.body [1, 1]) (St.of 49 [(0, .int .i64 x0), (1, .int .i64 x1)] []) H (kAt PP (orc impl_LineCells.id) rec k impl_LineCells.body [1, 1] [] (K0 PP Go.Proofs.Try.f75)) := by
  intros x0 x1 H
  unfold impl_LineCells.j1
  try simp only [impl_LineCells.l2_eq rec k]
  kernel_rfl
theorem impl_LineCells.j0_eq (rec : Rec) (k : Nat) : ∀ x0 x1 x19 H, impl_LineCells.j0 rec k x0 x1 x19 H = ex PP (orc impl_LineCells.id) rec k (sub impl_LineCells.body [1, 0, 1]) (St.of 49 [(0, .int .i64 x0), (1, .int .i64 x1), (19, .bool x19)] []) H (kAt PP (orc impl_LineCells.id) rec k impl_LineCells.body [1, 0, 1] [] (K0 PP Go.Proofs.Try.f75)) := by
  intros x0 x1 x19 H
  unfold impl_LineCells.j0
  try simp only [impl_LineCells.j1_eq rec k]
  kernel_rfl
theorem impl_LineCells.f_eq (rec : Rec) (k : Nat) : ∀ a0 a1 H, impl_LineCells.f rec k a0 a1 H = ex PP (orc impl_LineCells.id) rec k impl_LineCells.body (St.of 49 [(0, .int .i64 a0), (1, .int .i64 a1)] []) H (K0 PP Go.Proofs.Try.f75) := by
  intros a0 a1 H
  unfold impl_LineCells.f
  try simp only [impl_LineCells.j0_eq rec k]
  kernel_rfl
theorem impl_LineCells.call (k : Nat) : ∀ a0 a1 H, callF PP orc (k + 1) impl_LineCells.id [.int .i64 a0, .int .i64 a1] H = impl_LineCells.f (callF PP orc k) k a0 a1 H := by
  intros a0 a1 H
  rw [callF_at (fn := Go.Proofs.Try.f75) (c := impl_LineCells.body) Go.Proofs.Try.func75 (by kernel_rfl) (Nat.le_of_ble_eq_true (by kernel_rfl)), impl_LineCells.f_eq]
  kernel_rfl
noncomputable def spec_LineCells.body : Code := (Go.Proofs.Try.f76).body.getD .skip
def spec_LineCells.j3 (rec : Rec) (k : Nat) (x5 : Sl) (H : Hp) : An := some (.sl 1 x5, H)
def spec_LineCells.j4 (rec : Rec) (k : Nat) (L0 : Int → Int → Sl → Int → Hp → An) (x0 : Int) (x1 : Int) (x5 : Sl) (x6 : Int) (H : Hp) : An := L0 x0 x1 x5 (IntKind.i64.wrap (x6 + 1)) H
def spec_LineCells.j2 (rec : Rec) (k : Nat) (L0 : Int → Int → Sl → Int → Hp → An) (x0 : Int) (x1 : Int) (x5 : Sl) (x6 : Int) (H : Hp) : An := bif decide (x1 < x0) then (H.app 1 x5 1 [.int .i64 (IntKind.i64.wrap ((IntKind.i64.wrap (x1 * x0)) + x6))]).bind fun a5 => spec_LineCells.j4 rec k L0 x0 x1 a5.1 x6 a5.2 else (H.app 1 x5 1 [.int .i64 (IntKind.i64.wrap ((IntKind.i64.wrap ((IntKind.i64.wrap (x6 * x0)) + x1)) - x0))]).bind fun a6 => spec_LineCells.j4 rec k L0 x0 x1 a6.1 x6 a6.2
def spec_LineCells.j1 (rec : Rec) (k : Nat) (L0 : Int → Int → Sl → Int → Hp → An) (x0 : Int) (x1 : Int) (x5 : Sl) (x6 : Int) (x21 : Bool) (H : Hp) : An := bif x21 then spec_LineCells.j2 rec k L0 x0 x1 x5 x6 H else spec_LineCells.j3 rec k x5 H
def spec_LineCells.l0 (rec : Rec) (k : Nat) : Nat → Int → Int → Sl → Int → Hp → An
  | 0, _, _, _, _, _ => none
  | n + 1, x0, x1, x5, x6, H => bif decide (x6 < x0) then (rec spec_l1In.id [.int .i64 x0, .int .i64 2, .int .i64 4] H).bind fun r1 => r1.1.toB.bind fun b2 => bif b2 then (rec spec_l1In.id [.int .i64 x1, .int .i64 0, .int .i64 (IntKind.i64.wrap ((IntKind.i64.wrap (2 * x0)) - 1))] r1.2).bind fun r3 => r3.1.toB.bind fun b4 => spec_LineCells.j1 rec k (spec_LineCells.l0 rec k n) x0 x1 x5 x6 b4 r3.2 else spec_LineCells.j1 rec k (spec_LineCells.l0 rec k n) x0 x1 x5 x6 false r1.2 else spec_LineCells.j1 rec k (spec_LineCells.l0 rec k n) x0 x1 x5 x6 false H
def spec_LineCells.f (rec : Rec) (k : Nat) (a0 : Int) (a1 : Int) (H : Hp) : An := spec_LineCells.l0 rec k k a0 a1 (Sl.mk false H.length 0 0) 0 (H ++ [some (Blk.mk false [])])
theorem spec_LineCells.j3_eq (rec : Rec) (k : Nat) : ∀ x5 H, spec_LineCells.j3 rec k x5 H = ex PP (orc spec_LineCells.id) rec k (sub spec_LineCells.body [1, 1, 1]) (St.of 46 [(5, .sl 1 x5)] []) H (kAt PP (orc spec_LineCells.id) rec k spec_LineCells.body [1, 1, 1] [] (K0 PP Go.Proofs.Try.f76)) := by
  intros x5 H
  unfold spec_LineCells.j3
  kernel_rfl
theorem spec_LineCells.j4_eq (rec : Rec) (k : Nat) (n0 : Nat) (L0 : Int → Int → Sl → Int → Hp → An) (hL0 : ∀ x0 x1 x5 x6 H, L0 x0 x1 x5 x6 H = iter ((orc spec_LineCells.id).at (lbody (sub spec_LineCells.body [1, 1, 0, 1, 0]))) (ex PP (orc spec_LineCells.id) rec k (lbody (sub spec_LineCells.body [1, 1, 0, 1, 0]))) (kAt PP (orc spec_LineCells.id) rec k spec_LineCells.body [1, 1, 0, 1, 0] [] (K0 PP Go.Proofs.Try.f76)) n0 (St.of 46 [(0, .int .i64 x0), (1, .int .i64 x1), (5, .sl 1 x5), (6, .int .i64 x6)] []) H) : ∀ x0 x1 x5 x6 H, spec_LineCells.j4 rec k L0 x0 x1 x5 x6 H = ex PP (orc spec_LineCells.id) rec k (sub spec_LineCells.body [1, 1, 0, 1, 0, 0, 1, 1]) (St.of 46 [(0, .int .i64 x0), (1, .int .i64 x1), (5, .sl 1 x5), (6, .int .i64 x6)] []) H (kAt PP (orc spec_LineCells.id) rec k spec_LineCells.body [1, 1, 0, 1, 0, 0, 1, 1] [n0] (K0 PP Go.Proofs.Try.f76)) := by
  intros x0 x1 x5 x6 H
  unfold spec_LineCells.j4
  try simp only [hL0]
  kernel_rfl
theorem spec_LineCells.j2_eq (rec : Rec) (k : Nat) (n0 : Nat) (L0 : Int → Int → Sl → Int → Hp → An) (hL0 : ∀ x0 x1 x5 x6 H, L0 x0 x1 x5 x6 H = iter ((orc spec_LineCells.id).at (lbody (sub spec_LineCells.body [1, 1, 0, 1, 0]))) (ex PP (orc spec_LineCells.id) rec k (lbody (sub spec_LineCells.body [1, 1, 0, 1, 0]))) (kAt PP (orc spec_LineCells.id) rec k spec_LineCells.body [1, 1, 0, 1, 0] [] (K0 PP Go.Proofs.Try.f76)) n0 (St.of 46 [(0, .int .i64 x0), (1, .int .i64 x1), (5, .sl 1 x5), (6, .int .i64 x6)] []) H) : ∀ x0 x1 x5 x6 H, spec_LineCells.j2 rec k L0 x0 x1 x5 x6 H = ex PP (orc spec_LineCells.id) rec k (sub spec_LineCells.body [1, 1, 0, 1, 0, 0, 1]) (St.of 46 [(0, .int .i64 x0), (1, .int .i64 x1), (5, .sl 1 x5), (6, .int .i64 x6)] []) H (kAt PP (orc spec_LineCells.id) rec k spec_LineCells.body [1, 1, 0, 1, 0, 0, 1] [n0] (K0 PP Go.Proofs.Try.f76)) := by
  intros x0 x1 x5 x6 H
  unfold spec_LineCells.j2
  try simp only [hL0, spec_LineCells.j4_eq rec k n0 L0 hL0]
  kernel_rfl
theorem spec_LineCells.j1_eq (rec : Rec) (k : Nat) (n0 : Nat) (L0 : Int → Int → Sl → Int → Hp → An) (hL0 : ∀ x0 x1 x5 x6 H, L0 x0 x1 x5 x6 H = iter ((orc spec_LineCells.id).at (lbody (sub spec_LineCells.body [1, 1, 0, 1, 0]))) (ex PP (orc spec_LineCells.id) rec k (lbody (sub spec_LineCells.body [1, 1, 0, 1, 0]))) (kAt PP (orc spec_LineCells.id) rec k spec_LineCells.body [1, 1, 0, 1, 0] [] (K0 PP Go.Proofs.Try.f76)) n0 (St.of 46 [(0, .int .i64 x0), (1, .int .i64 x1), (5, .sl 1 x5), (6, .int .i64 x6)] []) H) : ∀ x0 x1 x5 x6 x21 H, spec_LineCells.j1 rec k L0 x0 x1 x5 x6 x21 H = ex PP (orc spec_LineCells.id) rec k (sub spec_LineCells.body [1, 1, 0, 1, 0, 0, 0, 1]) (St.of 46 [(0, .int .i64 x0), (1, .int .i64 x1), (5, .sl 1 x5), (6, .int .i64 x6), (21, .bool x21)] []) H (kAt PP (orc spec_LineCells.id) rec k spec_LineCells.body [1, 1, 0, 1, 0, 0, 0, 1] [n0] (K0 PP Go.Proofs.Try.f76)) := by
  intros x0 x1 x5 x6 x21 H
  unfold spec_LineCells.j1
  try simp only [hL0, spec_LineCells.j2_eq rec k n0 L0 hL0, spec_LineCells.j3_eq rec k]
  kernel_rfl
theorem spec_LineCells.l0_eq (rec : Rec) (k : Nat) : ∀ n x0 x1 x5 x6 H, spec_LineCells.l0 rec k n x0 x1 x5 x6 H = iter ((orc spec_LineCells.id).at (lbody (sub spec_LineCells.body [1, 1, 0, 1, 0]))) (ex PP (orc spec_LineCells.id) rec k (lbody (sub spec_LineCells.body [1, 1, 0, 1, 0]))) (kAt PP (orc spec_LineCells.id) rec k spec_LineCells.body [1, 1, 0, 1, 0] [] (K0 PP Go.Proofs.Try.f76)) n (St.of 46 [(0, .int .i64 x0), (1, .int .i64 x1), (5, .sl 1 x5), (6, .int .i64 x6)] []) H := by
  intro n
  induction n with
  | zero => intros; rfl
  | succ n ih =>
    intros x0 x1 x5 x6 H
    simp only [spec_LineCells.l0, spec_LineCells.j1_eq rec k n (spec_LineCells.l0 rec k n) (fun x0 x1 x5 x6 H => ih x0 x1 x5 x6 H), ih]
    kernel_rfl
theorem spec_LineCells.f_eq (rec : Rec) (k : Nat) : ∀ a0 a1 H, spec_LineCells.f rec k a0 a1 H = ex PP (orc spec_LineCells.id) rec k spec_LineCells.body (St.of 46 [(0, .int .i64 a0), (1, .int .i64 a1)] []) H (K0 PP Go.Proofs.Try.f76) := by
  intros a0 a1 H
  unfold spec_LineCells.f
  try simp only [spec_LineCells.l0_eq rec k]
  kernel_rfl
theorem spec_LineCells.call (k : Nat) : ∀ a0 a1 H, callF PP orc (k + 1) spec_LineCells.id [.int .i64 a0, .int .i64 a1] H = spec_LineCells.f (callF PP orc k) k a0 a1 H := by
  intros a0 a1 H
  rw [callF_at (fn := Go.Proofs.Try.f76) (c := spec_LineCells.body) Go.Proofs.Try.func76 (by kernel_rfl) (Nat.le_of_ble_eq_true (by kernel_rfl)), spec_LineCells.f_eq]
  kernel_rfl
noncomputable def spec_l2Clash.body : Code := (Go.Proofs.Try.f73).body.getD .skip
def spec_l2Clash.j3 (rec : Rec) (k : Nat) (L0 : Sl → Int → Int → Hp → An) (x0 : Sl) (x1 : Int) (x5 : Int) (H : Hp) : An := L0 x0 x1 (IntKind.i64.wrap (x5 + 1)) H
def spec_l2Clash.j5 (rec : Rec) (k : Nat) (L0 : Sl → Int → Int → Hp → An) (L1 : Sl → Int → Int → Sl → Int → Int → Hp → An) (x0 : Sl) (x1 : Int) (x5 : Int) (x6 : Sl) (x7 : Int) (x8 : Int) (H : Hp) : An := L1 x0 x1 x5 x6 x7 (IntKind.i64.wrap (x8 + 1)) H
def spec_l2Clash.j4 (rec : Rec) (k : Nat) (L0 : Sl → Int → Int → Hp → An) (L1 : Sl → Int → Int → Sl → Int → Int → Hp → An) (x0 : Sl) (x1 : Int) (x5 : Int) (x6 : Sl) (x7 : Int) (x8 : Int) (x9 : Int) (H : Hp) : An := if (x9 : Int) < 0 then none else spec_l2Clash.j5 rec k L0 L1 x0 x1 x5 x6 (IntKind.i64.wrap (((BitVec.ofInt IntKind.i64.bits x7 ||| BitVec.ofInt IntKind.i64.bits (IntKind.i64.wrap (1 * 2 ^ (min (x9 : Int).toNat IntKind.i64.bits)))).toNat : Int))) x8 H
def spec_l2Clash.j2 (rec : Rec) (k : Nat) (L0 : Sl → Int → Int → Hp → An) (L1 : Sl → Int → Int → Sl → Int → Int → Hp → An) (x0 : Sl) (x1 : Int) (x5 : Int) (x6 : Sl) (x7 : Int) (x8 : Int) (x9 : Int) (x40 : Bool) (H : Hp) : An := bif x40 then some (.bool true, H) else spec_l2Clash.j4 rec k L0 L1 x0 x1 x5 x6 x7 x8 x9 H
def spec_l2Clash.l1 (rec : Rec) (k : Nat) (L0 : Sl → Int → Int → Hp → An) : Nat → Sl → Int → Int → Sl → Int → Int → Hp → An
  | 0, _, _, _, _, _, _, _ => none
  | n + 1, x0, x1, x5, x6, x7, x8, H => bif decide (x8 < (x6.len : Int)) then bif decide (0 ≤ (x8 : Int)) && decide ((x8 : Int) < x6.len) then (ldI .i64 H x6.blk (x6.off + (x8 : Int).toNat * 1)).bind fun n3 => bif decide (0 ≤ (n3 : Int)) && decide ((n3 : Int) < x0.len) then (ldI .i64 H x0.blk (x0.off + (n3 : Int).toNat * 1)).bind fun n4 => bif decide (n4 > 0) then if (n4 : Int) < 0 then none else spec_l2Clash.j2 rec k L0 (spec_l2Clash.l1 rec k L0 n) x0 x1 x5 x6 x7 x8 n4 ((((x7 : Int).fdiv (2 ^ (min (n4 : Int).toNat IntKind.i64.bits)) : Int).tmod 2) == 1) H else spec_l2Clash.j2 rec k L0 (spec_l2Clash.l1 rec k L0 n) x0 x1 x5 x6 x7 x8 n4 false H else none else none else spec_l2Clash.j3 rec k L0 x0 x1 x5 H
def spec_l2Clash.l0 (rec : Rec) (k : Nat) : Nat → Sl → Int → Int → Hp → An
  | 0, _, _, _, _ => none
  | n + 1, x0, x1, x5, H => bif decide (x5 < (IntKind.i64.wrap (2 * x1))) then (rec spec_LineCells.id [.int .i64 x1, .int .i64 x5] H).bind fun r1 => (r1.1.toS 1).bind fun s2 => spec_l2Clash.l1 rec k (spec_l2Clash.l0 rec k n) k x0 x1 x5 s2 0 0 r1.2 else some (.bool false, H)
def spec_l2Clash.f (rec : Rec) (k : Nat) (a0 : Sl) (a1 : Int) (H : Hp) : An := spec_l2Clash.l0 rec k k a0 a1 0 H
theorem spec_l2Clash.j3_eq (rec : Rec) (k : Nat) (n0 : Nat) (L0 : Sl → Int → Int → Hp → An) (hL0 : ∀ x0 x1 x5 H, L0 x0 x1 x5 H = iter ((orc spec_l2Clash.id).at (lbody (sub spec_l2Clash.body [1, 0, 1, 0]))) (ex PP (orc spec_l2Clash.id) rec k (lbody (sub spec_l2Clash.body [1, 0, 1, 0]))) (kAt PP (orc spec_l2Clash.id) rec k spec_l2Clash.body [1, 0, 1, 0] [] (K0 PP Go.Proofs.Try.f73)) n0 (St.of 45 [(0, .sl 1 x0), (1, .int .i64 x1), (5, .int .i64 x5)] []) H) : ∀ x0 x1 x5 H, spec_l2Clash.j3 rec k L0 x0 x1 x5 H = ex PP (orc spec_l2Clash.id) rec k (sub spec_l2Clash.body [1, 0, 1, 0, 0, 1, 1]) (St.of 45 [(0, .sl 1 x0), (1, .int .i64 x1), (5, .int .i64 x5)] []) H (kAt PP (orc spec_l2Clash.id) rec k spec_l2Clash.body [1, 0, 1, 0, 0, 1, 1] [n0] (K0 PP Go.Proofs.Try.f73)) := by
  intros x0 x1 x5 H
  unfold spec_l2Clash.j3
  try simp only [hL0]
  kernel_rfl
theorem spec_l2Clash.j5_eq (rec : Rec) (k : Nat) (n0 : Nat) (L0 : Sl → Int → Int → Hp → An) (hL0 : ∀ x0 x1 x5 H, L0 x0 x1 x5 H = iter ((orc spec_l2Clash.id).at (lbody (sub spec_l2Clash.body [1, 0, 1, 0]))) (ex PP (orc spec_l2Clash.id) rec k (lbody (sub spec_l2Clash.body [1, 0, 1, 0]))) (kAt PP (orc spec_l2Clash.id) rec k spec_l2Clash.body [1, 0, 1, 0] [] (K0 PP Go.Proofs.Try.f73)) n0 (St.of 45 [(0, .sl 1 x0), (1, .int .i64 x1), (5, .int .i64 x5)] []) H) (n1 : Nat) (L1 : Sl → Int → Int → Sl → Int → Int → Hp → An) (hL1 : ∀ x0 x1 x5 x6 x7 x8 H, L1 x0 x1 x5 x6 x7 x8 H = iter ((orc spec_l2Clash.id).at (lbody (sub spec_l2Clash.body [1, 0, 1, 0, 0, 1, 0, 0, 1, 1, 1, 0]))) (ex PP (orc spec_l2Clash.id) rec k (lbody (sub spec_l2Clash.body [1, 0, 1, 0, 0, 1, 0, 0, 1, 1, 1, 0]))) (kAt PP (orc spec_l2Clash.id) rec k spec_l2Clash.body [1, 0, 1, 0, 0, 1, 0, 0, 1, 1, 1, 0] [n0] (K0 PP Go.Proofs.Try.f73)) n1 (St.of 45 [(0, .sl 1 x0), (1, .int .i64 x1), (5, .int .i64 x5), (6, .sl 1 x6), (7, .int .i64 x7), (8, .int .i64 x8)] []) H) : ∀ x0 x1 x5 x6 x7 x8 H, spec_l2Clash.j5 rec k L0 L1 x0 x1 x5 x6 x7 x8 H = ex PP (orc spec_l2Clash.id) rec k (sub spec_l2Clash.body [1, 0, 1, 0, 0, 1, 0, 0, 1, 1, 1, 0, 0, 1, 1]) (St.of 45 [(0, .sl 1 x0), (1, .int .i64 x1), (5, .int .i64 x5), (6, .sl 1 x6), (7, .int .i64 x7), (8, .int .i64 x8)] []) H (kAt PP (orc spec_l2Clash.id) rec k spec_l2Clash.body [1, 0, 1, 0, 0, 1, 0, 0, 1, 1, 1, 0, 0, 1, 1] [n0, n1] (K0 PP Go.Proofs.Try.f73)) := by
  intros x0 x1 x5 x6 x7 x8 H
  unfold spec_l2Clash.j5
  try simp only [hL0, hL1]
  kernel_rfl
theorem spec_l2Clash.j4_eq (rec : Rec) (k : Nat) (n0 : Nat) (L0 : Sl → Int → Int → Hp → An) (hL0 : ∀ x0 x1 x5 H, L0 x0 x1 x5 H = iter ((orc spec_l2Clash.id).at (lbody (sub spec_l2Clash.body [1, 0, 1, 0]))) (ex PP (orc spec_l2Clash.id) rec k (lbody (sub spec_l2Clash.body [1, 0, 1, 0]))) (kAt PP (orc spec_l2Clash.id) rec k spec_l2Clash.body [1, 0, 1, 0] [] (K0 PP Go.Proofs.Try.f73)) n0 (St.of 45 [(0, .sl 1 x0), (1, .int .i64 x1), (5, .int .i64 x5)] []) H) (n1 : Nat) (L1 : Sl → Int → Int → Sl → Int → Int → Hp → An) (hL1 : ∀ x0 x1 x5 x6 x7 x8 H, L1 x0 x1 x5 x6 x7 x8 H = iter ((orc spec_l2Clash.id).at (lbody (sub spec_l2Clash.body [1, 0, 1, 0, 0, 1, 0, 0, 1, 1, 1, 0]))) (ex PP (orc spec_l2Clash.id) rec k (lbody (sub spec_l2Clash.body [1, 0, 1, 0, 0, 1, 0, 0, 1, 1, 1, 0]))) (kAt PP (orc spec_l2Clash.id) rec k spec_l2Clash.body [1, 0, 1, 0, 0, 1, 0, 0, 1, 1, 1, 0] [n0] (K0 PP Go.Proofs.Try.f73)) n1 (St.of 45 [(0, .sl 1 x0), (1, .int .i64 x1), (5, .int .i64 x5), (6, .sl 1 x6), (7, .int .i64 x7), (8, .int .i64 x8)] []) H) : ∀ x0 x1 x5 x6 x7 x8 x9 H, spec_l2Clash.j4 rec k L0 L1 x0 x1 x5 x6 x7 x8 x9 H = ex PP (orc spec_l2Clash.id) rec k (sub spec_l2Clash.body [1, 0, 1, 0, 0, 1, 0, 0, 1, 1, 1, 0, 0, 1, 0, 0, 1, 1]) (St.of 45 [(0, .sl 1 x0), (1, .int .i64 x1), (5, .int .i64 x5), (6, .sl 1 x6), (7, .int .i64 x7), (8, .int .i64 x8), (9, .int .i64 x9)] []) H (kAt PP (orc spec_l2Clash.id) rec k spec_l2Clash.body [1, 0, 1, 0, 0, 1, 0, 0, 1, 1, 1, 0, 0, 1, 0, 0, 1, 1] [n0, n1] (K0 PP Go.Proofs.Try.f73)) := by
  intros x0 x1 x5 x6 x7 x8 x9 H
  unfold spec_l2Clash.j4
  try simp only [hL0, hL1, spec_l2Clash.j5_eq rec k n0 L0 hL0 n1 L1 hL1]
  kernel_rfl
theorem spec_l2Clash.j2_eq (rec : Rec) (k : Nat) (n0 : Nat) (L0 : Sl → Int → Int → Hp → An) (hL0 : ∀ x0 x1 x5 H, L0 x0 x1 x5 H = iter ((orc spec_l2Clash.id).at (lbody (sub spec_l2Clash.body [1, 0, 1, 0]))) (ex PP (orc spec_l2Clash.id) rec k (lbody (sub spec_l2Clash.body [1, 0, 1, 0]))) (kAt PP (orc spec_l2Clash.id) rec k spec_l2Clash.body [1, 0, 1, 0] [] (K0 PP Go.Proofs.Try.f73)) n0 (St.of 45 [(0, .sl 1 x0), (1, .int .i64 x1), (5, .int .i64 x5)] []) H) (n1 : Nat) (L1 : Sl → Int → Int → Sl → Int → Int → Hp → An) (hL1 : ∀ x0 x1 x5 x6 x7 x8 H, L1 x0 x1 x5 x6 x7 x8 H = iter ((orc spec_l2Clash.id).at (lbody (sub spec_l2Clash.body [1, 0, 1, 0, 0, 1, 0, 0, 1, 1, 1, 0]))) (ex PP (orc spec_l2Clash.id) rec k (lbody (sub spec_l2Clash.body [1, 0, 1, 0, 0, 1, 0, 0, 1, 1, 1, 0]))) (kAt PP (orc spec_l2Clash.id) rec k spec_l2Clash.body [1, 0, 1, 0, 0, 1, 0, 0, 1, 1, 1, 0] [n0] (K0 PP Go.Proofs.Try.f73)) n1 (St.of 45 [(0, .sl 1 x0), (1, .int .i64 x1), (5, .int .i64 x5), (6, .sl 1 x6), (7, .int .i64 x7), (8, .int .i64 x8)] []) H) : ∀ x0 x1 x5 x6 x7 x8 x9 x40 H, spec_l2Clash.j2 rec k L0 L1 x0 x1 x5 x6 x7 x8 x9 x40 H = ex PP (orc spec_l2Clash.id) rec k (sub spec_l2Clash.body [1, 0, 1, 0, 0, 1, 0, 0, 1, 1, 1, 0, 0, 1, 0, 0, 1, 0, 1]) (St.of 45 [(0, .sl 1 x0), (1, .int .i64 x1), (5, .int .i64 x5), (6, .sl 1 x6), (7, .int .i64 x7), (8, .int .i64 x8), (9, .int .i64 x9), (40, .bool x40)] []) H (kAt PP (orc spec_l2Clash.id) rec k spec_l2Clash.body [1, 0, 1, 0, 0, 1, 0, 0, 1, 1, 1, 0, 0, 1, 0, 0, 1, 0, 1] [n0, n1] (K0 PP Go.Proofs.Try.f73)) := by
  intros x0 x1 x5 x6 x7 x8 x9 x40 H
  unfold spec_l2Clash.j2
  try simp only [hL0, hL1, spec_l2Clash.j4_eq rec k n0 L0 hL0 n1 L1 hL1]
  kernel_rfl
theorem spec_l2Clash.l1_eq (rec : Rec) (k : Nat) (n0 : Nat) (L0 : Sl → Int → Int → Hp → An) (hL0 : ∀ x0 x1 x5 H, L0 x0 x1 x5 H = iter ((orc spec_l2Clash.id).at (lbody (sub spec_l2Clash.body [1, 0, 1, 0]))) (ex PP (orc spec_l2Clash.id) rec k (lbody (sub spec_l2Clash.body [1, 0, 1, 0]))) (kAt PP (orc spec_l2Clash.id) rec k spec_l2Clash.body [1, 0, 1, 0] [] (K0 PP Go.Proofs.Try.f73)) n0 (St.of 45 [(0, .sl 1 x0), (1, .int .i64 x1), (5, .int .i64 x5)] []) H) : ∀ n x0 x1 x5 x6 x7 x8 H, spec_l2Clash.l1 rec k L0 n x0 x1 x5 x6 x7 x8 H = iter ((orc spec_l2Clash.id).at (lbody (sub spec_l2Clash.body [1, 0, 1, 0, 0, 1, 0, 0, 1, 1, 1, 0]))) (ex PP (orc spec_l2Clash.id) rec k (lbody (sub spec_l2Clash.body [1, 0, 1, 0, 0, 1, 0, 0, 1, 1, 1, 0]))) (kAt PP (orc spec_l2Clash.id) rec k spec_l2Clash.body [1, 0, 1, 0, 0, 1, 0, 0, 1, 1, 1, 0] [n0] (K0 PP Go.Proofs.Try.f73)) n (St.of 45 [(0, .sl 1 x0), (1, .int .i64 x1), (5, .int .i64 x5), (6, .sl 1 x6), (7, .int .i64 x7), (8, .int .i64 x8)] []) H := by
  intro n
  induction n with
  | zero => intros; rfl
  | succ n ih =>
    intros x0 x1 x5 x6 x7 x8 H
    simp only [spec_l2Clash.l1, hL0, spec_l2Clash.j2_eq rec k n0 L0 hL0 n (spec_l2Clash.l1 rec k L0 n) (fun x0 x1 x5 x6 x7 x8 H => ih x0 x1 x5 x6 x7 x8 H), spec_l2Clash.j3_eq rec k n0 L0 hL0, ih]
    kernel_rfl
theorem spec_l2Clash.l0_eq (rec : Rec) (k : Nat) : ∀ n x0 x1 x5 H, spec_l2Clash.l0 rec k n x0 x1 x5 H = iter ((orc spec_l2Clash.id).at (lbody (sub spec_l2Clash.body [1, 0, 1, 0]))) (ex PP (orc spec_l2Clash.id) rec k (lbody (sub spec_l2Clash.body [1, 0, 1, 0]))) (kAt PP (orc spec_l2Clash.id) rec k spec_l2Clash.body [1, 0, 1, 0] [] (K0 PP Go.Proofs.Try.f73)) n (St.of 45 [(0, .sl 1 x0), (1, .int .i64 x1), (5, .int .i64 x5)] []) H := by
  intro n
  induction n with
  | zero => intros; rfl
  | succ n ih =>
    intros x0 x1 x5 H
    simp only [spec_l2Clash.l0, spec_l2Clash.l1_eq rec k n (spec_l2Clash.l0 rec k n) (fun x0 x1 x5 H => ih x0 x1 x5 H), ih]
    kernel_rfl
theorem spec_l2Clash.f_eq (rec : Rec) (k : Nat) : ∀ a0 a1 H, spec_l2Clash.f rec k a0 a1 H = ex PP (orc spec_l2Clash.id) rec k spec_l2Clash.body (St.of 45 [(0, .sl 1 a0), (1, .int .i64 a1)] []) H (K0 PP Go.Proofs.Try.f73) := by
  intros a0 a1 H
  unfold spec_l2Clash.f
  try simp only [spec_l2Clash.l0_eq rec k]
  kernel_rfl
theorem spec_l2Clash.call (k : Nat) : ∀ a0 a1 H, callF PP orc (k + 1) spec_l2Clash.id [.sl 1 a0, .int .i64 a1] H = spec_l2Clash.f (callF PP orc k) k a0 a1 H := by
  intros a0 a1 H
  rw [callF_at (fn := Go.Proofs.Try.f73) (c := spec_l2Clash.body) Go.Proofs.Try.func73 (by kernel_rfl) (Nat.le_of_ble_eq_true (by kernel_rfl)), spec_l2Clash.f_eq]
  kernel_rfl
noncomputable def impl_SquareFits.body : Code := (Go.Proofs.Try.f70).body.getD .skip
def impl_SquareFits.j3 (rec : Rec) (k : Nat) (L0 : Sl → Int → Int → Int → Hp → An) (x0 : Sl) (x1 : Int) (x14 : Int) (x15 : Int) (H : Hp) : An := L0 x0 x1 x14 (IntKind.i64.wrap (x15 + 1)) H
def impl_SquareFits.j5 (rec : Rec) (k : Nat) (L0 : Sl → Int → Int → Int → Hp → An) (L1 : Sl → Int → Nat → Nat → Int → Int → Sl → Int → Int → Hp → An) (x0 : Sl) (x1 : Int) (x6b : Nat) (x6o : Nat) (x14 : Int) (x15 : Int) (x21 : Sl) (x22 : Int) (x23 : Int) (H : Hp) : An := L1 x0 x1 x6b x6o x14 x15 x21 x22 (IntKind.i64.wrap (x23 + 1)) H
def impl_SquareFits.j4 (rec : Rec) (k : Nat) (L0 : Sl → Int → Int → Int → Hp → An) (L1 : Sl → Int → Nat → Nat → Int → Int → Sl → Int → Int → Hp → An) (x0 : Sl) (x1 : Int) (x6b : Nat) (x6o : Nat) (x8 : Int) (x14 : Int) (x15 : Int) (x21 : Sl) (x22 : Int) (x23 : Int) (H : Hp) : An := bif decide (0 ≤ (x8 : Int)) && decide ((x8 : Int) < x0.len) then (ldI .i64 H x0.blk (x0.off + (x8 : Int).toNat * 1)).bind fun n10 => bif decide (0 ≤ (n10 : Int)) && decide ((n10 : Int) < ((5 : Nat) : Int)) then (H.sto x6b (x6o + (n10 : Int).toNat * 1) [.bool true]).bind fun H11 => impl_SquareFits.j5 rec k L0 L1 x0 x1 x6b x6o x14 x15 x21 x22 x23 H11 else none else none
def impl_SquareFits.j2 (rec : Rec) (k : Nat) (L0 : Sl → Int → Int → Int → Hp → An) (L1 : Sl → Int → Nat → Nat → Int → Int → Sl → Int → Int → Hp → An) (x0 : Sl) (x1 : Int) (x6b : Nat) (x6o : Nat) (x8 : Int) (x14 : Int) (x15 : Int) (x21 : Sl) (x22 : Int) (x23 : Int) (x39 : Bool) (H : Hp) : An := bif x39 then some (.bool false, H) else impl_SquareFits.j4 rec k L0 L1 x0 x1 x6b x6o x8 x14 x15 x21 x22 x23 H
def impl_SquareFits.l1 (rec : Rec) (k : Nat) (L0 : Sl → Int → Int → Int → Hp → An) : Nat → Sl → Int → Nat → Nat → Int → Int → Sl → Int → Int → Hp → An
  | 0, _, _, _, _, _, _, _, _, _, _ => none
  | n + 1, x0, x1, x6b, x6o, x14, x15, x21, x22, x23, H => bif decide (x23 < x22) then bif decide (0 ≤ (x23 : Int)) && decide ((x23 : Int) < x21.len) then (ldI .i64 H x21.blk (x21.off + (x23 : Int).toNat * 1)).bind fun n6 => bif decide (0 ≤ (n6 : Int)) && decide ((n6 : Int) < x0.len) then (ldI .i64 H x0.blk (x0.off + (n6 : Int).toNat * 1)).bind fun n7 => bif decide (n7 > 0) then bif decide (0 ≤ (n6 : Int)) && decide ((n6 : Int) < x0.len) then (ldI .i64 H x0.blk (x0.off + (n6 : Int).toNat * 1)).bind fun n8 => bif decide (0 ≤ (n8 : Int)) && decide ((n8 : Int) < ((5 : Nat) : Int)) then (ldB H x6b (x6o + (n8 : Int).toNat * 1)).bind fun b9 => impl_SquareFits.j2 rec k L0 (impl_SquareFits.l1 rec k L0 n) x0 x1 x6b x6o n6 x14 x15 x21 x22 x23 b9 H else none else none else impl_SquareFits.j2 rec k L0 (impl_SquareFits.l1 rec k L0 n) x0 x1 x6b x6o n6 x14 x15 x21 x22 x23 false H else none else none else impl_SquareFits.j3 rec k L0 x0 x1 x14 x15 H
def impl_SquareFits.l0 (rec : Rec) (k : Nat) : Nat → Sl → Int → Int → Int → Hp → An
  | 0, _, _, _, _, _ => none
  | n + 1, x0, x1, x14, x15, H => bif decide (x15 < x14) then ((H ++ [some (Blk.mk false [.bool false, .bool false, .bool false, .bool false, .bool false])]).sto H.length 0 [.bool false, .bool false, .bool false, .bool false, .bool false]).bind fun H3 => (rec impl_LineCells.id [.int .i64 x1, .int .i64 x15] H3).bind fun r4 => (r4.1.toS 1).bind fun s5 => impl_SquareFits.l1 rec k (impl_SquareFits.l0 rec k n) k x0 x1 H.length 0 x14 x15 s5 (s5.len : Int) 0 r4.2 else some (.bool true, H)
def impl_SquareFits.f (rec : Rec) (k : Nat) (a0 : Sl) (a1 : Int) (H : Hp) : An := (rec impl_GridValid.id [.sl 1 a0, .int .i64 a1] H).bind fun r1 => r1.1.toB.bind fun b2 => bif !b2 then some (.bool false, r1.2) else impl_SquareFits.l0 rec k k a0 a1 (IntKind.i64.wrap (2 * a1)) 0 r1.2
theorem impl_SquareFits.j3_eq (rec : Rec) (k : Nat) (n0 : Nat) (L0 : Sl → Int → Int → Int → Hp → An) (hL0 : ∀ x0 x1 x14 x15 H, L0 x0 x1 x14 x15 H = iter ((orc impl_SquareFits.id).at (lbody (sub impl_SquareFits.body [1, 1, 0, 1, 0]))) (ex PP (orc impl_SquareFits.id) rec k (lbody (sub impl_SquareFits.body [1, 1, 0, 1, 0]))) (kAt PP (orc impl_SquareFits.id) rec k impl_SquareFits.body [1, 1, 0, 1, 0] [] (K0 PP Go.Proofs.Try.f70)) n0 (St.of 47 [(0, .sl 1 x0), (1, .int .i64 x1), (14, .int .i64 x14), (15, .int .i64 x15)] []) H) : ∀ x0 x1 x14 x15 H, impl_SquareFits.j3 rec k L0 x0 x1 x14 x15 H = ex PP (orc impl_SquareFits.id) rec k (sub impl_SquareFits.body [1, 1, 0, 1, 0, 0, 1, 1, 1]) (St.of 47 [(0, .sl 1 x0), (1, .int .i64 x1), (14, .int .i64 x14), (15, .int .i64 x15)] []) H (kAt PP (orc impl_SquareFits.id) rec k impl_SquareFits.body [1, 1, 0, 1, 0, 0, 1, 1, 1] [n0] (K0 PP Go.Proofs.Try.f70)) := by
  intros x0 x1 x14 x15 H
  unfold impl_SquareFits.j3
  try simp only [hL0]
  kernel_rfl
theorem impl_SquareFits.j5_eq (rec : Rec) (k : Nat) (n0 : Nat) (L0 : Sl → Int → Int → Int → Hp → An) (hL0 : ∀ x0 x1 x14 x15 H, L0 x0 x1 x14 x15 H = iter ((orc impl_SquareFits.id).at (lbody (sub impl_SquareFits.body [1, 1, 0, 1, 0]))) (ex PP (orc impl_SquareFits.id) rec k (lbody (sub impl_SquareFits.body [1, 1, 0, 1, 0]))) (kAt PP (orc impl_SquareFits.id) rec k impl_SquareFits.body [1, 1, 0, 1, 0] [] (K0 PP Go.Proofs.Try.f70)) n0 (St.of 47 [(0, .sl 1 x0), (1, .int .i64 x1), (14, .int .i64 x14), (15, .int .i64 x15)] []) H) (n1 : Nat) (L1 : Sl → Int → Nat → Nat → Int → Int → Sl → Int → Int → Hp → An) (hL1 : ∀ x0 x1 x6b x6o x14 x15 x21 x22 x23 H, L1 x0 x1 x6b x6o x14 x15 x21 x22 x23 H = iter ((orc impl_SquareFits.id).at (lbody (sub impl_SquareFits.body [1, 1, 0, 1, 0, 0, 1, 1, 0, 0, 1, 1, 1, 0]))) (ex PP (orc impl_SquareFits.id) rec k (lbody (sub impl_SquareFits.body [1, 1, 0, 1, 0, 0, 1, 1, 0, 0, 1, 1, 1, 0]))) (kAt PP (orc impl_SquareFits.id) rec k impl_SquareFits.body [1, 1, 0, 1, 0, 0, 1, 1, 0, 0, 1, 1, 1, 0] [n0] (K0 PP Go.Proofs.Try.f70)) n1 (St.of 47 [(0, .sl 1 x0), (1, .int .i64 x1), (6, .ptr x6b x6o), (14, .int .i64 x14), (15, .int .i64 x15), (21, .sl 1 x21), (22, .int .i64 x22), (23, .int .i64 x23)] []) H) : ∀ x0 x1 x6b x6o x14 x15 x21 x22 x23 H, impl_SquareFits.j5 rec k L0 L1 x0 x1 x6b x6o x14 x15 x21 x22 x23 H = ex PP (orc impl_SquareFits.id) rec k (sub impl_SquareFits.body [1, 1, 0, 1, 0, 0, 1, 1, 0, 0, 1, 1, 1, 0, 0, 1, 1, 1]) (St.of 47 [(0, .sl 1 x0), (1, .int .i64 x1), (6, .ptr x6b x6o), (14, .int .i64 x14), (15, .int .i64 x15), (21, .sl 1 x21), (22, .int .i64 x22), (23, .int .i64 x23)] []) H (kAt PP (orc impl_SquareFits.id) rec k impl_SquareFits.body [1, 1, 0, 1, 0, 0, 1, 1, 0, 0, 1, 1, 1, 0, 0, 1, 1, 1] [n0, n1] (K0 PP Go.Proofs.Try.f70)) := by
  intros x0 x1 x6b x6o x14 x15 x21 x22 x23 H
  unfold impl_SquareFits.j5
  try simp only [hL0, hL1]
  kernel_rfl
theorem impl_SquareFits.j4_eq (rec : Rec) (k : Nat) (n0 : Nat) (L0 : Sl → Int → Int → Int → Hp → An) (hL0 : ∀ x0 x1 x14 x15 H, L0 x0 x1 x14 x15 H = iter ((orc impl_SquareFits.id).at (lbody (sub impl_SquareFits.body [1, 1, 0, 1, 0]))) (ex PP (orc impl_SquareFits.id) rec k (lbody (sub impl_SquareFits.body [1, 1, 0, 1, 0]))) (kAt PP (orc impl_SquareFits.id) rec k impl_SquareFits.body [1, 1, 0, 1, 0] [] (K0 PP Go.Proofs.Try.f70)) n0 (St.of 47 [(0, .sl 1 x0), (1, .int .i64 x1), (14, .int .i64 x14), (15, .int .i64 x15)] []) H) (n1 : Nat) (L1 : Sl → Int → Nat → Nat → Int → Int → Sl → Int → Int → Hp → An) (hL1 : ∀ x0 x1 x6b x6o x14 x15 x21 x22 x23 H, L1 x0 x1 x6b x6o x14 x15 x21 x22 x23 H = iter ((orc impl_SquareFits.id).at (lbody (sub impl_SquareFits.body [1, 1, 0, 1, 0, 0, 1, 1, 0, 0, 1, 1, 1, 0]))) (ex PP (orc impl_SquareFits.id) rec k (lbody (sub impl_SquareFits.body [1, 1, 0, 1, 0, 0, 1, 1, 0, 0, 1, 1, 1, 0]))) (kAt PP (orc impl_SquareFits.id) rec k impl_SquareFits.body [1, 1, 0, 1, 0, 0, 1, 1, 0, 0, 1, 1, 1, 0] [n0] (K0 PP Go.Proofs.Try.f70)) n1 (St.of 47 [(0, .sl 1 x0), (1, .int .i64 x1), (6, .ptr x6b x6o), (14, .int .i64 x14), (15, .int .i64 x15), (21, .sl 1 x21), (22, .int .i64 x22), (23, .int .i64 x23)] []) H) : ∀ x0 x1 x6b x6o x8 x14 x15 x21 x22 x23 H, impl_SquareFits.j4 rec k L0 L1 x0 x1 x6b x6o x8 x14 x15 x21 x22 x23 H = ex PP (orc impl_SquareFits.id) rec k (sub impl_SquareFits.body [1, 1, 0, 1, 0, 0, 1, 1, 0, 0, 1, 1, 1, 0, 0, 1, 1, 0, 0, 1, 1]) (St.of 47 [(0, .sl 1 x0), (1, .int .i64 x1), (6, .ptr x6b x6o), (8, .int .i64 x8), (14, .int .i64 x14), (15, .int .i64 x15), (21, .sl 1 x21), (22, .int .i64 x22), (23, .int .i64 x23)] []) H (kAt PP (orc impl_SquareFits.id) rec k impl_SquareFits.body [1, 1, 0, 1, 0, 0, 1, 1, 0, 0, 1, 1, 1, 0, 0, 1, 1, 0, 0, 1, 1] [n0, n1] (K0 PP Go.Proofs.Try.f70)) := by
  intros x0 x1 x6b x6o x8 x14 x15 x21 x22 x23 H
  unfold impl_SquareFits.j4
  try simp only [hL0, hL1, impl_SquareFits.j5_eq rec k n0 L0 hL0 n1 L1 hL1]
  kernel_rfl
theorem impl_SquareFits.j2_eq (rec : Rec) (k : Nat) (n0 : Nat) (L0 : Sl → Int → Int → Int → Hp → An) (hL0 : ∀ x0 x1 x14 x15 H, L0 x0 x1 x14 x15 H = iter ((orc impl_SquareFits.id).at (lbody (sub impl_SquareFits.body [1, 1, 0, 1, 0]))) (ex PP (orc impl_SquareFits.id) rec k (lbody (sub impl_SquareFits.body [1, 1, 0, 1, 0]))) (kAt PP (orc impl_SquareFits.id) rec k impl_SquareFits.body [1, 1, 0, 1, 0] [] (K0 PP Go.Proofs.Try.f70)) n0 (St.of 47 [(0, .sl 1 x0), (1, .int .i64 x1), (14, .int .i64 x14), (15, .int .i64 x15)] []) H) (n1 : Nat) (L1 : Sl → Int → Nat → Nat → Int → Int → Sl → Int → Int → Hp → An) (hL1 : ∀ x0 x1 x6b x6o x14 x15 x21 x22 x23 H, L1 x0 x1 x6b x6o x14 x15 x21 x22 x23 H = iter ((orc impl_SquareFits.id).at (lbody (sub impl_SquareFits.body [1, 1, 0, 1, 0, 0, 1, 1, 0, 0, 1, 1, 1, 0]))) (ex PP (orc impl_SquareFits.id) rec k (lbody (sub impl_SquareFits.body [1, 1, 0, 1, 0, 0, 1, 1, 0, 0, 1, 1, 1, 0]))) (kAt PP (orc impl_SquareFits.id) rec k impl_SquareFits.body [1, 1, 0, 1, 0, 0, 1, 1, 0, 0, 1, 1, 1, 0] [n0] (K0 PP Go.Proofs.Try.f70)) n1 (St.of 47 [(0, .sl 1 x0), (1, .int .i64 x1), (6, .ptr x6b x6o), (14, .int .i64 x14), (15, .int .i64 x15), (21, .sl 1 x21), (22, .int .i64 x22), (23, .int .i64 x23)] []) H) : ∀ x0 x1 x6b x6o x8 x14 x15 x21 x22 x23 x39 H, impl_SquareFits.j2 rec k L0 L1 x0 x1 x6b x6o x8 x14 x15 x21 x22 x23 x39 H = ex PP (orc impl_SquareFits.id) rec k (sub impl_SquareFits.body [1, 1, 0, 1, 0, 0, 1, 1, 0, 0, 1, 1, 1, 0, 0, 1, 1, 0, 0, 1, 0, 1]) (St.of 47 [(0, .sl 1 x0), (1, .int .i64 x1), (6, .ptr x6b x6o), (8, .int .i64 x8), (14, .int .i64 x14), (15, .int .i64 x15), (21, .sl 1 x21), (22, .int .i64 x22), (23, .int .i64 x23), (39, .bool x39)] []) H (kAt PP (orc impl_SquareFits.id) rec k impl_SquareFits.body [1, 1, 0, 1, 0, 0, 1, 1, 0, 0, 1, 1, 1, 0, 0, 1, 1, 0, 0, 1, 0, 1] [n0, n1] (K0 PP Go.Proofs.Try.f70)) := by
  intros x0 x1 x6b x6o x8 x14 x15 x21 x22 x23 x39 H
  unfold impl_SquareFits.j2
  try simp only [hL0, hL1, impl_SquareFits.j4_eq rec k n0 L0 hL0 n1 L1 hL1]
  kernel_rfl
theorem impl_SquareFits.l1_eq (rec : Rec) (k : Nat) (n0 : Nat) (L0 : Sl → Int → Int → Int → Hp → An) (hL0 : ∀ x0 x1 x14 x15 H, L0 x0 x1 x14 x15 H = iter ((orc impl_SquareFits.id).at (lbody (sub impl_SquareFits.body [1, 1, 0, 1, 0]))) (ex PP (orc impl_SquareFits.id) rec k (lbody (sub impl_SquareFits.body [1, 1, 0, 1, 0]))) (kAt PP (orc impl_SquareFits.id) rec k impl_SquareFits.body [1, 1, 0, 1, 0] [] (K0 PP Go.Proofs.Try.f70)) n0 (St.of 47 [(0, .sl 1 x0), (1, .int .i64 x1), (14, .int .i64 x14), (15, .int .i64 x15)] []) H) : ∀ n x0 x1 x6b x6o x14 x15 x21 x22 x23 H, impl_SquareFits.l1 rec k L0 n x0 x1 x6b x6o x14 x15 x21 x22 x23 H = iter ((orc impl_SquareFits.id).at (lbody (sub impl_SquareFits.body [1, 1, 0, 1, 0, 0, 1, 1, 0, 0, 1, 1, 1, 0]))) (ex PP (orc impl_SquareFits.id) rec k (lbody (sub impl_SquareFits.body [1, 1, 0, 1, 0, 0, 1, 1, 0, 0, 1, 1, 1, 0]))) (kAt PP (orc impl_SquareFits.id) rec k impl_SquareFits.body [1, 1, 0, 1, 0, 0, 1, 1, 0, 0, 1, 1, 1, 0] [n0] (K0 PP Go.Proofs.Try.f70)) n (St.of 47 [(0, .sl 1 x0), (1, .int .i64 x1), (6, .ptr x6b x6o), (14, .int .i64 x14), (15, .int .i64 x15), (21, .sl 1 x21), (22, .int .i64 x22), (23, .int .i64 x23)] []) H := by
  intro n
  induction n with
  | zero => intros; rfl
  | succ n ih =>
    intros x0 x1 x6b x6o x14 x15 x21 x22 x23 H
    simp only [impl_SquareFits.l1, hL0, impl_SquareFits.j2_eq rec k n0 L0 hL0 n (impl_SquareFits.l1 rec k L0 n) (fun x0 x1 x6b x6o x14 x15 x21 x22 x23 H => ih x0 x1 x6b x6o x14 x15 x21 x22 x23 H), impl_SquareFits.j3_eq rec k n0 L0 hL0, ih]
    kernel_rfl
theorem impl_SquareFits.l0_eq (rec : Rec) (k : Nat) : ∀ n x0 x1 x14 x15 H, impl_SquareFits.l0 rec k n x0 x1 x14 x15 H = iter ((orc impl_SquareFits.id).at (lbody (sub impl_SquareFits.body [1, 1, 0, 1, 0]))) (ex PP (orc impl_SquareFits.id) rec k (lbody (sub impl_SquareFits.body [1, 1, 0, 1, 0]))) (kAt PP (orc impl_SquareFits.id) rec k impl_SquareFits.body [1, 1, 0, 1, 0] [] (K0 PP Go.Proofs.Try.f70)) n (St.of 47 [(0, .sl 1 x0), (1, .int .i64 x1), (14, .int .i64 x14), (15, .int .i64 x15)] []) H := by
  intro n
  induction n with
  | zero => intros; rfl
  | succ n ih =>
    intros x0 x1 x14 x15 H
    simp only [impl_SquareFits.l0, impl_SquareFits.l1_eq rec k n (impl_SquareFits.l0 rec k n) (fun x0 x1 x14 x15 H => ih x0 x1 x14 x15 H), ih]
    kernel_rfl
theorem impl_SquareFits.f_eq (rec : Rec) (k : Nat) : ∀ a0 a1 H, impl_SquareFits.f rec k a0 a1 H = ex PP (orc impl_SquareFits.id) rec k impl_SquareFits.body (St.of 47 [(0, .sl 1 a0), (1, .int .i64 a1)] []) H (K0 PP Go.Proofs.Try.f70) := by
  intros a0 a1 H
  unfold impl_SquareFits.f
  try simp only [impl_SquareFits.l0_eq rec k]
  kernel_rfl
theorem impl_SquareFits.call (k : Nat) : ∀ a0 a1 H, callF PP orc (k + 1) impl_SquareFits.id [.sl 1 a0, .int .i64 a1] H = impl_SquareFits.f (callF PP orc k) k a0 a1 H := by
  intros a0 a1 H
  rw [callF_at (fn := Go.Proofs.Try.f70) (c := impl_SquareFits.body) Go.Proofs.Try.func70 (by kernel_rfl) (Nat.le_of_ble_eq_true (by kernel_rfl)), impl_SquareFits.f_eq]
  kernel_rfl
noncomputable def spec_SquareFits.body : Code := (Go.Proofs.Try.f68).body.getD .skip
def spec_SquareFits.f (rec : Rec) (k : Nat) (a0 : Sl) (a1 : Int) (H : Hp) : An := (rec spec_GridValid.id [.sl 1 a0, .int .i64 a1] H).bind fun r1 => r1.1.toB.bind fun b2 => bif b2 then (rec spec_l2Clash.id [.sl 1 a0, .int .i64 a1] r1.2).bind fun r3 => r3.1.toB.bind fun b4 => some (.bool (!b4), r3.2) else some (.bool false, r1.2)
theorem spec_SquareFits.f_eq (rec : Rec) (k : Nat) : ∀ a0 a1 H, spec_SquareFits.f rec k a0 a1 H = ex PP (orc spec_SquareFits.id) rec k spec_SquareFits.body (St.of 14 [(0, .sl 1 a0), (1, .int .i64 a1)] []) H (K0 PP Go.Proofs.Try.f68) := by
  intros a0 a1 H
  unfold spec_SquareFits.f
  kernel_rfl
theorem spec_SquareFits.call (k : Nat) : ∀ a0 a1 H, callF PP orc (k + 1) spec_SquareFits.id [.sl 1 a0, .int .i64 a1] H = spec_SquareFits.f (callF PP orc k) k a0 a1 H := by
  intros a0 a1 H
  rw [callF_at (fn := Go.Proofs.Try.f68) (c := spec_SquareFits.body) Go.Proofs.Try.func68 (by kernel_rfl) (Nat.le_of_ble_eq_true (by kernel_rfl)), spec_SquareFits.f_eq]
  kernel_rfl
noncomputable def impl_SquareSolved.body : Code := (Go.Proofs.Try.f58).body.getD .skip
def impl_SquareSolved.f (rec : Rec) (k : Nat) (a0 : Sl) (a1 : Int) (H : Hp) : An := (rec impl_SquareFits.id [.sl 1 a0, .int .i64 a1] H).bind fun r1 => r1.1.toB.bind fun b2 => bif b2 then (rec impl_GridFilled.id [.sl 1 a0, .int .i64 a1] r1.2).bind fun r3 => (r3.1.toI .i64).bind fun n4 => some (.bool (n4 == (IntKind.i64.wrap (a1 * a1))), r3.2) else some (.bool false, r1.2)
theorem impl_SquareSolved.f_eq (rec : Rec) (k : Nat) : ∀ a0 a1 H, impl_SquareSolved.f rec k a0 a1 H = ex PP (orc impl_SquareSolved.id) rec k impl_SquareSolved.body (St.of 17 [(0, .sl 1 a0), (1, .int .i64 a1)] []) H (K0 PP Go.Proofs.Try.f58) := by
  intros a0 a1 H
  unfold impl_SquareSolved.f
  kernel_rfl
theorem impl_SquareSolved.call (k : Nat) : ∀ a0 a1 H, callF PP orc (k + 1) impl_SquareSolved.id [.sl 1 a0, .int .i64 a1] H = impl_SquareSolved.f (callF PP orc k) k a0 a1 H := by
  intros a0 a1 H
  rw [callF_at (fn := Go.Proofs.Try.f58) (c := impl_SquareSolved.body) Go.Proofs.Try.func58 (by kernel_rfl) (Nat.le_of_ble_eq_true (by kernel_rfl)), impl_SquareSolved.f_eq]
  kernel_rfl
noncomputable def spec_SquareSolved.body : Code := (Go.Proofs.Try.f56).body.getD .skip
def spec_SquareSolved.f (rec : Rec) (k : Nat) (a0 : Sl) (a1 : Int) (H : Hp) : An := (rec spec_SquareFits.id [.sl 1 a0, .int .i64 a1] H).bind fun r1 => r1.1.toB.bind fun b2 => bif b2 then (rec spec_GridFilled.id [.sl 1 a0, .int .i64 a1] r1.2).bind fun r3 => (r3.1.toI .i64).bind fun n4 => some (.bool (n4 == (IntKind.i64.wrap (a1 * a1))), r3.2) else some (.bool false, r1.2)
theorem spec_SquareSolved.f_eq (rec : Rec) (k : Nat) : ∀ a0 a1 H, spec_SquareSolved.f rec k a0 a1 H = ex PP (orc spec_SquareSolved.id) rec k spec_SquareSolved.body (St.of 17 [(0, .sl 1 a0), (1, .int .i64 a1)] []) H (K0 PP Go.Proofs.Try.f56) := by
  intros a0 a1 H
  unfold spec_SquareSolved.f
  kernel_rfl
theorem spec_SquareSolved.call (k : Nat) : ∀ a0 a1 H, callF PP orc (k + 1) spec_SquareSolved.id [.sl 1 a0, .int .i64 a1] H = spec_SquareSolved.f (callF PP orc k) k a0 a1 H := by
  intros a0 a1 H
  rw [callF_at (fn := Go.Proofs.Try.f56) (c := spec_SquareSolved.body) Go.Proofs.Try.func56 (by kernel_rfl) (Nat.le_of_ble_eq_true (by kernel_rfl)), spec_SquareSolved.f_eq]
  kernel_rfl
noncomputable def impl_neighbours.body : Code := (Go.Proofs.Try.f59).body.getD .skip
def impl_neighbours.j2 (rec : Rec) (k : Nat) (x3 : Sl) (H : Hp) : An := some (.sl 2 x3, H)
def impl_neighbours.j3 (rec : Rec) (k : Nat) (L0 : Int → Sl → Int → Int → Hp → An) (x0 : Int) (x3 : Sl) (x8 : Int) (x9 : Int) (H : Hp) : An := L0 x0 x3 x8 (IntKind.i64.wrap (x9 + 1)) H
def impl_neighbours.j1 (rec : Rec) (k : Nat) (L0 : Int → Sl → Int → Int → Hp → An) (x0 : Int) (x3 : Sl) (x4 : Int) (x8 : Int) (x9 : Int) (H : Hp) : An := if (x0 : Int) = 0 then none else bif decide ((IntKind.i64.wrap ((x4 : Int).tdiv x0)) < (IntKind.i64.wrap (x0 - 1))) then (H.app 2 x3 1 [.int .i64 x4, .int .i64 (IntKind.i64.wrap (x4 + x0))]).bind fun a2 => impl_neighbours.j3 rec k L0 x0 a2.1 x8 x9 a2.2 else impl_neighbours.j3 rec k L0 x0 x3 x8 x9 H
def impl_neighbours.l0 (rec : Rec) (k : Nat) : Nat → Int → Sl → Int → Int → Hp → An
  | 0, _, _, _, _, _ => none
  | n + 1, x0, x3, x8, x9, H => bif decide (x9 < x8) then if (x0 : Int) = 0 then none else bif decide (((x9 : Int).tmod x0) < (IntKind.i64.wrap (x0 - 1))) then (H.app 2 x3 1 [.int .i64 x9, .int .i64 (IntKind.i64.wrap (x9 + 1))]).bind fun a1 => impl_neighbours.j1 rec k (impl_neighbours.l0 rec k n) x0 a1.1 x9 x8 x9 a1.2 else impl_neighbours.j1 rec k (impl_neighbours.l0 rec k n) x0 x3 x9 x8 x9 H else impl_neighbours.j2 rec k x3 H
def impl_neighbours.f (rec : Rec) (k : Nat) (a0 : Int) (H : Hp) : An := impl_neighbours.l0 rec k k a0 (Sl.mk false H.length 0 0) (IntKind.i64.wrap (a0 * a0)) 0 (H ++ [some (Blk.mk false [])])
theorem impl_neighbours.j2_eq (rec : Rec) (k : Nat) : ∀ x3 H, impl_neighbours.j2 rec k x3 H = ex PP (orc impl_neighbours.id) rec k (sub impl_neighbours.body [1, 1, 1]) (St.of 41 [(3, .sl 2 x3)] []) H (kAt PP (orc impl_neighbours.id) rec k impl_neighbours.body [1, 1, 1] [] (K0 PP Go.Proofs.Try.f59)) := by
  intros x3 H
  unfold impl_neighbours.j2
  kernel_rfl
theorem impl_neighbours.j3_eq (rec : Rec) (k : Nat) (n0 : Nat) (L0 : Int → Sl → Int → Int → Hp → An) (hL0 : ∀ x0 x3 x8 x9 H, L0 x0 x3 x8 x9 H = iter ((orc impl_neighbours.id).at (lbody (sub impl_neighbours.body [1, 1, 0, 1, 0]))) (ex PP (orc impl_neighbours.id) rec k (lbody (sub impl_neighbours.body [1, 1, 0, 1, 0]))) (kAt PP (orc impl_neighbours.id) rec k impl_neighbours.body [1, 1, 0, 1, 0] [] (K0 PP Go.Proofs.Try.f59)) n0 (St.of 41 [(0, .int .i64 x0), (3, .sl 2 x3), (8, .int .i64 x8), (9, .int .i64 x9)] []) H) : ∀ x0 x3 x8 x9 H, impl_neighbours.j3 rec k L0 x0 x3 x8 x9 H = ex PP (orc impl_neighbours.id) rec k (sub impl_neighbours.body [1, 1, 0, 1, 0, 0, 1, 1, 1]) (St.of 41 [(0, .int .i64 x0), (3, .sl 2 x3), (8, .int .i64 x8), (9, .int .i64 x9)] []) H (kAt PP (orc impl_neighbours.id) rec k impl_neighbours.body [1, 1, 0, 1, 0, 0, 1, 1, 1] [n0] (K0 PP Go.Proofs.Try.f59)) := by
  intros x0 x3 x8 x9 H
  unfold impl_neighbours.j3
  try simp only [hL0]
  kernel_rfl
theorem impl_neighbours.j1_eq (rec : Rec) (k : Nat) (n0 : Nat) (L0 : Int → Sl → Int → Int → Hp → An) (hL0 : ∀ x0 x3 x8 x9 H, L0 x0 x3 x8 x9 H = iter ((orc impl_neighbours.id).at (lbody (sub impl_neighbours.body [1, 1, 0, 1, 0]))) (ex PP (orc impl_neighbours.id) rec k (lbody (sub impl_neighbours.body [1, 1, 0, 1, 0]))) (kAt PP (orc impl_neighbours.id) rec k impl_neighbours.body [1, 1, 0, 1, 0] [] (K0 PP Go.Proofs.Try.f59)) n0 (St.of 41 [(0, .int .i64 x0), (3, .sl 2 x3), (8, .int .i64 x8), (9, .int .i64 x9)] []) H) : ∀ x0 x3 x4 x8 x9 H, impl_neighbours.j1 rec k L0 x0 x3 x4 x8 x9 H = ex PP (orc impl_neighbours.id) rec k (sub impl_neighbours.body [1, 1, 0, 1, 0, 0, 1, 1, 0, 0, 1, 1]) (St.of 41 [(0, .int .i64 x0), (3, .sl 2 x3), (4, .int .i64 x4), (8, .int .i64 x8), (9, .int .i64 x9)] []) H (kAt PP (orc impl_neighbours.id) rec k impl_neighbours.body [1, 1, 0, 1, 0, 0, 1, 1, 0, 0, 1, 1] [n0] (K0 PP Go.Proofs.Try.f59)) := by
  intros x0 x3 x4 x8 x9 H
  unfold impl_neighbours.j1
  try simp only [hL0, impl_neighbours.j3_eq rec k n0 L0 hL0]
  kernel_rfl
theorem impl_neighbours.l0_eq (rec : Rec) (k : Nat) : ∀ n x0 x3 x8 x9 H, impl_neighbours.l0 rec k n x0 x3 x8 x9 H = iter ((orc impl_neighbours.id).at (lbody (sub impl_neighbours.body [1, 1, 0, 1, 0]))) (ex PP (orc impl_neighbours.id) rec k (lbody (sub impl_neighbours.body [1, 1, 0, 1, 0]))) (kAt PP (orc impl_neighbours.id) rec k impl_neighbours.body [1, 1, 0, 1, 0] [] (K0 PP Go.Proofs.Try.f59)) n (St.of 41 [(0, .int .i64 x0), (3, .sl 2 x3), (8, .int .i64 x8), (9, .int .i64 x9)] []) H := by
  intro n
  induction n with
  | zero => intros; rfl
  | succ n ih =>
    intros x0 x3 x8 x9 H
    simp only [impl_neighbours.l0, impl_neighbours.j1_eq rec k n (impl_neighbours.l0 rec k n) (fun x0 x3 x8 x9 H => ih x0 x3 x8 x9 H), impl_neighbours.j2_eq rec k, ih]
    kernel_rfl
theorem impl_neighbours.f_eq (rec : Rec) (k : Nat) : ∀ a0 H, impl_neighbours.f rec k a0 H = ex PP (orc impl_neighbours.id) rec k impl_neighbours.body (St.of 41 [(0, .int .i64 a0)] []) H (K0 PP Go.Proofs.Try.f59) := by
  intros a0 H
  unfold impl_neighbours.f
  try simp only [impl_neighbours.l0_eq rec k]
  kernel_rfl
theorem impl_neighbours.call (k : Nat) : ∀ a0 H, callF PP orc (k + 1) impl_neighbours.id [.int .i64 a0] H = impl_neighbours.f (callF PP orc k) k a0 H := by
  intros a0 H
  rw [callF_at (fn := Go.Proofs.Try.f59) (c := impl_neighbours.body) Go.Proofs.Try.func59 (by kernel_rfl) (Nat.le_of_ble_eq_true (by kernel_rfl)), impl_neighbours.f_eq]
  kernel_rfl
noncomputable def spec_l19Pairs.body : Code := (Go.Proofs.Try.f57).body.getD .skip
def spec_l19Pairs.j2 (rec : Rec) (k : Nat) (x3 : Sl) (H : Hp) : An := some (.sl 1 x3, H)
def spec_l19Pairs.j3 (rec : Rec) (k : Nat) (L0 : Int → Sl → Int → Hp → An) (x0 : Int) (x3 : Sl) (x4 : Int) (H : Hp) : An := L0 x0 x3 (IntKind.i64.wrap (x4 + 1)) H
def spec_l19Pairs.j1 (rec : Rec) (k : Nat) (L0 : Int → Sl → Int → Hp → An) (x0 : Int) (x3 : Sl) (x4 : Int) (H : Hp) : An := if (x0 : Int) = 0 then none else bif decide ((IntKind.i64.wrap ((x4 : Int).tdiv x0)) < (IntKind.i64.wrap (x0 - 1))) then ((H ++ [some (Blk.mk false [.int .i64 x4, .int .i64 (IntKind.i64.wrap (x4 + x0))])]).app 1 x3 1 [.sl 1 (Sl.mk false H.length 0 2)]).bind fun a2 => spec_l19Pairs.j3 rec k L0 x0 a2.1 x4 a2.2 else spec_l19Pairs.j3 rec k L0 x0 x3 x4 H
def spec_l19Pairs.l0 (rec : Rec) (k : Nat) : Nat → Int → Sl → Int → Hp → An
  | 0, _, _, _, _ => none
  | n + 1, x0, x3, x4, H => bif decide (x4 < (IntKind.i64.wrap (x0 * x0))) then if (x0 : Int) = 0 then none else bif decide (((x4 : Int).tmod x0) < (IntKind.i64.wrap (x0 - 1))) then ((H ++ [some (Blk.mk false [.int .i64 x4, .int .i64 (IntKind.i64.wrap (x4 + 1))])]).app 1 x3 1 [.sl 1 (Sl.mk false H.length 0 2)]).bind fun a1 => spec_l19Pairs.j1 rec k (spec_l19Pairs.l0 rec k n) x0 a1.1 x4 a1.2 else spec_l19Pairs.j1 rec k (spec_l19Pairs.l0 rec k n) x0 x3 x4 H else spec_l19Pairs.j2 rec k x3 H
def spec_l19Pairs.f (rec : Rec) (k : Nat) (a0 : Int) (H : Hp) : An := spec_l19Pairs.l0 rec k k a0 (Sl.mk false H.length 0 0) 0 (H ++ [some (Blk.mk false [])])
theorem spec_l19Pairs.j2_eq (rec : Rec) (k : Nat) : ∀ x3 H, spec_l19Pairs.j2 rec k x3 H = ex PP (orc spec_l19Pairs.id) rec k (sub spec_l19Pairs.body [1, 1, 1]) (St.of 41 [(3, .sl 1 x3)] []) H (kAt PP (orc spec_l19Pairs.id) rec k spec_l19Pairs.body [1, 1, 1] [] (K0 PP Go.Proofs.Try.f57)) := by
  intros x3 H
  unfold spec_l19Pairs.j2
  kernel_rfl
theorem spec_l19Pairs.j3_eq (rec : Rec) (k : Nat) (n0 : Nat) (L0 : Int → Sl → Int → Hp → An) (hL0 : ∀ x0 x3 x4 H, L0 x0 x3 x4 H = iter ((orc spec_l19Pairs.id).at (lbody (sub spec_l19Pairs.body [1, 1, 0, 1, 0]))) (ex PP (orc spec_l19Pairs.id) rec k (lbody (sub spec_l19Pairs.body [1, 1, 0, 1, 0]))) (kAt PP (orc spec_l19Pairs.id) rec k spec_l19Pairs.body [1, 1, 0, 1, 0] [] (K0 PP Go.Proofs.Try.f57)) n0 (St.of 41 [(0, .int .i64 x0), (3, .sl 1 x3), (4, .int .i64 x4)] []) H) : ∀ x0 x3 x4 H, spec_l19Pairs.j3 rec k L0 x0 x3 x4 H = ex PP (orc spec_l19Pairs.id) rec k (sub spec_l19Pairs.body [1, 1, 0, 1, 0, 0, 1, 1]) (St.of 41 [(0, .int .i64 x0), (3, .sl 1 x3), (4, .int .i64 x4)] []) H (kAt PP (orc spec_l19Pairs.id) rec k spec_l19Pairs.body [1, 1, 0, 1, 0, 0, 1, 1] [n0] (K0 PP Go.Proofs.Try.f57)) := by
  intros x0 x3 x4 H
  unfold spec_l19Pairs.j3
  try simp only [hL0]
  kernel_rfl
theorem spec_l19Pairs.j1_eq (rec : Rec) (k : Nat) (n0 : Nat) (L0 : Int → Sl → Int → Hp → An) (hL0 : ∀ x0 x3 x4 H, L0 x0 x3 x4 H = iter ((orc spec_l19Pairs.id).at (lbody (sub spec_l19Pairs.body [1, 1, 0, 1, 0]))) (ex PP (orc spec_l19Pairs.id) rec k (lbody (sub spec_l19Pairs.body [1, 1, 0, 1, 0]))) (kAt PP (orc spec_l19Pairs.id) rec k spec_l19Pairs.body [1, 1, 0, 1, 0] [] (K0 PP Go.Proofs.Try.f57)) n0 (St.of 41 [(0, .int .i64 x0), (3, .sl 1 x3), (4, .int .i64 x4)] []) H) : ∀ x0 x3 x4 H, spec_l19Pairs.j1 rec k L0 x0 x3 x4 H = ex PP (orc spec_l19Pairs.id) rec k (sub spec_l19Pairs.body [1, 1, 0, 1, 0, 0, 1, 0, 0, 1]) (St.of 41 [(0, .int .i64 x0), (3, .sl 1 x3), (4, .int .i64 x4)] []) H (kAt PP (orc spec_l19Pairs.id) rec k spec_l19Pairs.body [1, 1, 0, 1, 0, 0, 1, 0, 0, 1] [n0] (K0 PP Go.Proofs.Try.f57)) := by
  intros x0 x3 x4 H
  unfold spec_l19Pairs.j1
  try simp only [hL0, spec_l19Pairs.j3_eq rec k n0 L0 hL0]
  kernel_rfl
theorem spec_l19Pairs.l0_eq (rec : Rec) (k : Nat) : ∀ n x0 x3 x4 H, spec_l19Pairs.l0 rec k n x0 x3 x4 H = iter ((orc spec_l19Pairs.id).at (lbody (sub spec_l19Pairs.body [1, 1, 0, 1, 0]))) (ex PP (orc spec_l19Pairs.id) rec k (lbody (sub spec_l19Pairs.body [1, 1, 0, 1, 0]))) (kAt PP (orc spec_l19Pairs.id) rec k spec_l19Pairs.body [1, 1, 0, 1, 0] [] (K0 PP Go.Proofs.Try.f57)) n (St.of 41 [(0, .int .i64 x0), (3, .sl 1 x3), (4, .int .i64 x4)] []) H := by
  intro n
  induction n with
  | zero => intros; rfl
  | succ n ih =>
    intros x0 x3 x4 H
    simp only [spec_l19Pairs.l0, spec_l19Pairs.j1_eq rec k n (spec_l19Pairs.l0 rec k n) (fun x0 x3 x4 H => ih x0 x3 x4 H), spec_l19Pairs.j2_eq rec k, ih]
    kernel_rfl
theorem spec_l19Pairs.f_eq (rec : Rec) (k : Nat) : ∀ a0 H, spec_l19Pairs.f rec k a0 H = ex PP (orc spec_l19Pairs.id) rec k spec_l19Pairs.body (St.of 41 [(0, .int .i64 a0)] []) H (K0 PP Go.Proofs.Try.f57) := by
  intros a0 H
  unfold spec_l19Pairs.f
  try simp only [spec_l19Pairs.l0_eq rec k]
  kernel_rfl
theorem spec_l19Pairs.call (k : Nat) : ∀ a0 H, callF PP orc (k + 1) spec_l19Pairs.id [.int .i64 a0] H = spec_l19Pairs.f (callF PP orc k) k a0 H := by
  intros a0 H
  rw [callF_at (fn := Go.Proofs.Try.f57) (c := spec_l19Pairs.body) Go.Proofs.Try.func57 (by kernel_rfl) (Nat.le_of_ble_eq_true (by kernel_rfl)), spec_l19Pairs.f_eq]
  kernel_rfl
noncomputable def impl_ApartRules.body : Code := (Go.Proofs.Try.f35).body.getD .skip
def impl_ApartRules.j4 (rec : Rec) (k : Nat) (x7 : Sl) (H : Hp) : An := some (.sl 3 x7, H)
def impl_ApartRules.j5 (rec : Rec) (k : Nat) (L2 : Sl → Int → Sl → Sl → Int → Int → Hp → An) (x0 : Sl) (x2 : Int) (x7 : Sl) (x26 : Sl) (x27 : Int) (x28 : Int) (H : Hp) : An := L2 x0 x2 x7 x26 x27 (IntKind.i64.wrap (x28 + 1)) H
def impl_ApartRules.j3 (rec : Rec) (k : Nat) (L2 : Sl → Int → Sl → Sl → Int → Int → Hp → An) (x0 : Sl) (x2 : Int) (x7 : Sl) (x9b : Nat) (x9o : Nat) (x26 : Sl) (x27 : Int) (x28 : Int) (x53 : Bool) (H : Hp) : An := bif x53 then bif decide (0 ≤ (0 : Int)) && decide ((0 : Int) < ((2 : Nat) : Int)) then (ldI .i64 H x9b (x9o + (0 : Int).toNat * 1)).bind fun n12 => bif decide (0 ≤ (1 : Int)) && decide ((1 : Int) < ((2 : Nat) : Int)) then (ldI .i64 H x9b (x9o + (1 : Int).toNat * 1)).bind fun n13 => ((H ++ [some (Blk.mk false [.int .i64 n12, .int .i64 n13])]).app 3 x7 1 [.int .i64 5, .sl 1 (Sl.mk false H.length 0 2), .int .i64 x2]).bind fun a14 => impl_ApartRules.j5 rec k L2 x0 x2 a14.1 x26 x27 x28 a14.2 else none else none else impl_ApartRules.j5 rec k L2 x0 x2 x7 x26 x27 x28 H
def impl_ApartRules.l2 (rec : Rec) (k : Nat) : Nat → Sl → Int → Sl → Sl → Int → Int → Hp → An
  | 0, _, _, _, _, _, _, _ => none
  | n + 1, x0, x2, x7, x26, x27, x28, H => bif decide (x28 < x27) then bif decide (0 ≤ (x28 : Int)) && decide ((x28 : Int) < x26.len) then (ldI .i64 H x26.blk (x26.off + (x28 : Int).toNat * 2)).bind fun n5 => (ldI .i64 H x26.blk (x26.off + (x28 : Int).toNat * 2 + 1)).bind fun n6 => ((H ++ [some (Blk.mk false [.int .i64 0, .int .i64 0])]).sto H.length 0 [.int .i64 n5, .int .i64 n6]).bind fun H7 => bif decide (0 ≤ (0 : Int)) && decide ((0 : Int) < ((2 : Nat) : Int)) then (ldI .i64 H7 H.length (0 + (0 : Int).toNat * 1)).bind fun n8 => bif decide (0 ≤ (n8 : Int)) && decide ((n8 : Int) < x0.len) then (ldI .i64 H7 x0.blk (x0.off + (n8 : Int).toNat * 1)).bind fun n9 => bif decide (0 ≤ (1 : Int)) && decide ((1 : Int) < ((2 : Nat) : Int)) then (ldI .i64 H7 H.length (0 + (1 : Int).toNat * 1)).bind fun n10 => bif decide (0 ≤ (n10 : Int)) && decide ((n10 : Int) < x0.len) then (ldI .i64 H7 x0.blk (x0.off + (n10 : Int).toNat * 1)).bind fun n11 => bif (mx (IntKind.i64.wrap (n9 - n11)) (IntKind.i64.wrap (0 - (IntKind.i64.wrap (n9 - n11))))) == x2 then impl_ApartRules.j3 rec k (impl_ApartRules.l2 rec k n) x0 x2 x7 H.length 0 x26 x27 x28 (decide ((x7.len : Int) < 20)) H7 else impl_ApartRules.j3 rec k (impl_ApartRules.l2 rec k n) x0 x2 x7 H.length 0 x26 x27 x28 false H7 else none else none else none else none else none else impl_ApartRules.j4 rec k x7 H
def impl_ApartRules.j1 (rec : Rec) (k : Nat) (x0 : Sl) (x1 : Int) (x2 : Int) (H : Hp) : An := (rec impl_neighbours.id [.int .i64 x1] (H ++ [some (Blk.mk false [])])).bind fun r3 => (r3.1.toS 2).bind fun s4 => impl_ApartRules.l2 rec k k x0 x2 (Sl.mk false H.length 0 0) s4 (s4.len : Int) 0 r3.2
def impl_ApartRules.j0 (rec : Rec) (k : Nat) (x0 : Sl) (x1 : Int) (x2 : Int) (x23 : Bool) (H : Hp) : An := bif x23 then some (.sl 3 Sl.none, H) else impl_ApartRules.j1 rec k x0 x1 x2 H
def impl_ApartRules.f (rec : Rec) (k : Nat) (a0 : Sl) (a1 : Int) (a2 : Int) (H : Hp) : An := (rec impl_SquareSolved.id [.sl 1 a0, .int .i64 a1] H).bind fun r1 => r1.1.toB.bind fun b2 => bif !b2 then impl_ApartRules.j0 rec k a0 a1 a2 true r1.2 else bif decide (a2 < 0) then impl_ApartRules.j0 rec k a0 a1 a2 true r1.2 else impl_ApartRules.j0 rec k a0 a1 a2 (decide (a2 ≥ a1)) r1.2
theorem impl_ApartRules.j4_eq (rec : Rec) (k : Nat) : ∀ x7 H, impl_ApartRules.j4 rec k x7 H = ex PP (orc impl_ApartRules.id) rec k (sub impl_ApartRules.body [1, 1, 1, 1]) (St.of 66 [(7, .sl 3 x7)] []) H (kAt PP (orc impl_ApartRules.id) rec k impl_ApartRules.body [1, 1, 1, 1] [] (K0 PP Go.Proofs.Try.f35)) := by
  intros x7 H
  unfold impl_ApartRules.j4
  kernel_rfl
theorem impl_ApartRules.j5_eq (rec : Rec) (k : Nat) (n2 : Nat) (L2 : Sl → Int → Sl → Sl → Int → Int → Hp → An) (hL2 : ∀ x0 x2 x7 x26 x27 x28 H, L2 x0 x2 x7 x26 x27 x28 H = iter ((orc impl_ApartRules.id).at (lbody (sub impl_ApartRules.body [1, 1, 1, 0, 1, 0]))) (ex PP (orc impl_ApartRules.id) rec k (lbody (sub impl_ApartRules.body [1, 1, 1, 0, 1, 0]))) (kAt PP (orc impl_ApartRules.id) rec k impl_ApartRules.body [1, 1, 1, 0, 1, 0] [] (K0 PP Go.Proofs.Try.f35)) n2 (St.of 66 [(0, .sl 1 x0), (2, .int .i64 x2), (7, .sl 3 x7), (26, .sl 2 x26), (27, .int .i64 x27), (28, .int .i64 x28)] []) H) : ∀ x0 x2 x7 x26 x27 x28 H, impl_ApartRules.j5 rec k L2 x0 x2 x7 x26 x27 x28 H = ex PP (orc impl_ApartRules.id) rec k (sub impl_ApartRules.body [1, 1, 1, 0, 1, 0, 0, 1, 1, 1]) (St.of 66 [(0, .sl 1 x0), (2, .int .i64 x2), (7, .sl 3 x7), (26, .sl 2 x26), (27, .int .i64 x27), (28, .int .i64 x28)] []) H (kAt PP (orc impl_ApartRules.id) rec k impl_ApartRules.body [1, 1, 1, 0, 1, 0, 0, 1, 1, 1] [n2] (K0 PP Go.Proofs.Try.f35)) := by
  intros x0 x2 x7 x26 x27 x28 H
  unfold impl_ApartRules.j5
  try simp only [hL2]
  kernel_rfl
theorem impl_ApartRules.j3_eq (rec : Rec) (k : Nat) (n2 : Nat) (L2 : Sl → Int → Sl → Sl → Int → Int → Hp → An) (hL2 : ∀ x0 x2 x7 x26 x27 x28 H, L2 x0 x2 x7 x26 x27 x28 H = iter ((orc impl_ApartRules.id).at (lbody (sub impl_ApartRules.body [1, 1, 1, 0, 1, 0]))) (ex PP (orc impl_ApartRules.id) rec k (lbody (sub impl_ApartRules.body [1, 1, 1, 0, 1, 0]))) (kAt PP (orc impl_ApartRules.id) rec k impl_ApartRules.body [1, 1, 1, 0, 1, 0] [] (K0 PP Go.Proofs.Try.f35)) n2 (St.of 66 [(0, .sl 1 x0), (2, .int .i64 x2), (7, .sl 3 x7), (26, .sl 2 x26), (27, .int .i64 x27), (28, .int .i64 x28)] []) H) : ∀ x0 x2 x7 x9b x9o x26 x27 x28 x53 H, impl_ApartRules.j3 rec k L2 x0 x2 x7 x9b x9o x26 x27 x28 x53 H = ex PP (orc impl_ApartRules.id) rec k (sub impl_ApartRules.body [1, 1, 1, 0, 1, 0, 0, 1, 1, 0, 0, 1, 1, 1]) (St.of 66 [(0, .sl 1 x0), (2, .int .i64 x2), (7, .sl 3 x7), (9, .ptr x9b x9o), (26, .sl 2 x26), (27, .int .i64 x27), (28, .int .i64 x28), (53, .bool x53)] []) H (kAt PP (orc impl_ApartRules.id) rec k impl_ApartRules.body [1, 1, 1, 0, 1, 0, 0, 1, 1, 0, 0, 1, 1, 1] [n2] (K0 PP Go.Proofs.Try.f35)) := by
  intros x0 x2 x7 x9b x9o x26 x27 x28 x53 H
  unfold impl_ApartRules.j3
  try simp only [hL2, impl_ApartRules.j5_eq rec k n2 L2 hL2]
  kernel_rfl
theorem impl_ApartRules.l2_eq (rec : Rec) (k : Nat) : ∀ n x0 x2 x7 x26 x27 x28 H, impl_ApartRules.l2 rec k n x0 x2 x7 x26 x27 x28 H = iter ((orc impl_ApartRules.id).at (lbody (sub impl_ApartRules.body [1, 1, 1, 0, 1, 0]))) (ex PP (orc impl_ApartRules.id) rec k (lbody (sub impl_ApartRules.body [1, 1, 1, 0, 1, 0]))) (kAt PP (orc impl_ApartRules.id) rec k impl_ApartRules.body [1, 1, 1, 0, 1, 0] [] (K0 PP Go.Proofs.Try.f35)) n (St.of 66 [(0, .sl 1 x0), (2, .int .i64 x2), (7, .sl 3 x7), (26, .sl 2 x26), (27, .int .i64 x27), (28, .int .i64 x28)] []) H := by
  intro n
  induction n with
  | zero => intros; rfl
  | succ n ih =>
    intros x0 x2 x7 x26 x27 x28 H
    simp only [impl_ApartRules.l2, impl_ApartRules.j3_eq rec k n (impl_ApartRules.l2 rec k n) (fun x0 x2 x7 x26 x27 x28 H => ih x0 x2 x7 x26 x27 x28 H), impl_ApartRules.j4_eq rec k, ih]
    kernel_rfl
theorem impl_ApartRules.j1_eq (rec : Rec) (k : Nat) : ∀ x0 x1 x2 H, impl_ApartRules.j1 rec k x0 x1 x2 H = ex PP (orc impl_ApartRules.id) rec k (sub impl_ApartRules.body [1, 1]) (St.of 66 [(0, .sl 1 x0), (1, .int .i64 x1), (2, .int .i64 x2)] []) H (kAt PP (orc impl_ApartRules.id) rec k impl_ApartRules.body [1, 1] [] (K0 PP Go.Proofs.Try.f35)) := by
  intros x0 x1 x2 H
  unfold impl_ApartRules.j1
  try simp only [impl_ApartRules.l2_eq rec k]
  kernel_rfl
theorem impl_ApartRules.j0_eq (rec : Rec) (k : Nat) : ∀ x0 x1 x2 x23 H, impl_ApartRules.j0 rec k x0 x1 x2 x23 H = ex PP (orc impl_ApartRules.id) rec k (sub impl_ApartRules.body [1, 0, 1]) (St.of 66 [(0, .sl 1 x0), (1, .int .i64 x1), (2, .int .i64 x2), (23, .bool x23)] []) H (kAt PP (orc impl_ApartRules.id) rec k impl_ApartRules.body [1, 0, 1] [] (K0 PP Go.Proofs.Try.f35)) := by
  intros x0 x1 x2 x23 H
  unfold impl_ApartRules.j0
  try simp only [impl_ApartRules.j1_eq rec k]
  kernel_rfl
theorem impl_ApartRules.f_eq (rec : Rec) (k : Nat) : ∀ a0 a1 a2 H, impl_ApartRules.f rec k a0 a1 a2 H = ex PP (orc impl_ApartRules.id) rec k impl_ApartRules.body (St.of 66 [(0, .sl 1 a0), (1, .int .i64 a1), (2, .int .i64 a2)] []) H (K0 PP Go.Proofs.Try.f35) := by
  intros a0 a1 a2 H
  unfold impl_ApartRules.f
  try simp only [impl_ApartRules.j0_eq rec k]
  kernel_rfl
theorem impl_ApartRules.call (k : Nat) : ∀ a0 a1 a2 H, callF PP orc (k + 1) impl_ApartRules.id [.sl 1 a0, .int .i64 a1, .int .i64 a2] H = impl_ApartRules.f (callF PP orc k) k a0 a1 a2 H := by
  intros a0 a1 a2 H
  rw [callF_at (fn := Go.Proofs.Try.f35) (c := impl_ApartRules.body) Go.Proofs.Try.func35 (by kernel_rfl) (Nat.le_of_ble_eq_true (by kernel_rfl)), impl_ApartRules.f_eq]
  kernel_rfl
noncomputable def spec_ApartRules.body : Code := (Go.Proofs.Try.f34).body.getD .skip
def spec_ApartRules.j5 (rec : Rec) (k : Nat) (x7 : Sl) (H : Hp) : An := some (.sl 3 x7, H)
def spec_ApartRules.j6 (rec : Rec) (k : Nat) (L2 : Sl → Int → Sl → Sl → Int → Hp → An) (x0 : Sl) (x2 : Int) (x7 : Sl) (x8 : Sl) (x9 : Int) (H : Hp) : An := L2 x0 x2 x7 x8 (IntKind.i64.wrap (x9 + 1)) H
def spec_ApartRules.j4 (rec : Rec) (k : Nat) (L2 : Sl → Int → Sl → Sl → Int → Hp → An) (x0 : Sl) (x2 : Int) (x7 : Sl) (x8 : Sl) (x9 : Int) (H : Hp) : An := bif decide (0 ≤ (x9 : Int)) && decide ((x9 : Int) < x8.len) then (ldS 1 H x8.blk (x8.off + (x9 : Int).toNat * 1)).bind fun s7 => bif decide (0 ≤ (0 : Int)) && decide ((0 : Int) < s7.len) then (ldI .i64 H s7.blk (s7.off + (0 : Int).toNat * 1)).bind fun n8 => bif decide (0 ≤ (n8 : Int)) && decide ((n8 : Int) < x0.len) then (ldI .i64 H x0.blk (x0.off + (n8 : Int).toNat * 1)).bind fun n9 => bif decide (0 ≤ (x9 : Int)) && decide ((x9 : Int) < x8.len) then (ldS 1 H x8.blk (x8.off + (x9 : Int).toNat * 1)).bind fun s10 => bif decide (0 ≤ (1 : Int)) && decide ((1 : Int) < s10.len) then (ldI .i64 H s10.blk (s10.off + (1 : Int).toNat * 1)).bind fun n11 => bif decide (0 ≤ (n11 : Int)) && decide ((n11 : Int) < x0.len) then (ldI .i64 H x0.blk (x0.off + (n11 : Int).toNat * 1)).bind fun n12 => bif (mx (IntKind.i64.wrap (n9 - n12)) (IntKind.i64.wrap (0 - (IntKind.i64.wrap (n9 - n12))))) == x2 then bif decide (0 ≤ (x9 : Int)) && decide ((x9 : Int) < x8.len) then (ldS 1 H x8.blk (x8.off + (x9 : Int).toNat * 1)).bind fun s13 => (H.app 3 x7 1 [.int .i64 5, .sl 1 s13, .int .i64 x2]).bind fun a14 => spec_ApartRules.j6 rec k L2 x0 x2 a14.1 x8 x9 a14.2 else none else spec_ApartRules.j6 rec k L2 x0 x2 x7 x8 x9 H else none else none else none else none else none else none
def spec_ApartRules.j3 (rec : Rec) (k : Nat) (L2 : Sl → Int → Sl → Sl → Int → Hp → An) (x0 : Sl) (x2 : Int) (x7 : Sl) (x8 : Sl) (x9 : Int) (x34 : Bool) (H : Hp) : An := bif x34 then spec_ApartRules.j4 rec k L2 x0 x2 x7 x8 x9 H else spec_ApartRules.j5 rec k x7 H
def spec_ApartRules.l2 (rec : Rec) (k : Nat) : Nat → Sl → Int → Sl → Sl → Int → Hp → An
  | 0, _, _, _, _, _, _ => none
  | n + 1, x0, x2, x7, x8, x9, H => bif decide (x9 < (x8.len : Int)) then spec_ApartRules.j3 rec k (spec_ApartRules.l2 rec k n) x0 x2 x7 x8 x9 (decide ((x7.len : Int) < 20)) H else spec_ApartRules.j3 rec k (spec_ApartRules.l2 rec k n) x0 x2 x7 x8 x9 false H
def spec_ApartRules.j1 (rec : Rec) (k : Nat) (x0 : Sl) (x1 : Int) (x2 : Int) (x7 : Sl) (H : Hp) : An := (rec spec_l19Pairs.id [.int .i64 x1] H).bind fun r5 => (r5.1.toS 1).bind fun s6 => spec_ApartRules.l2 rec k k x0 x2 x7 s6 0 r5.2
def spec_ApartRules.j0 (rec : Rec) (k : Nat) (x0 : Sl) (x1 : Int) (x2 : Int) (x7 : Sl) (x22 : Bool) (H : Hp) : An := bif x22 then some (.sl 3 x7, H) else spec_ApartRules.j1 rec k x0 x1 x2 x7 H
def spec_ApartRules.f (rec : Rec) (k : Nat) (a0 : Sl) (a1 : Int) (a2 : Int) (H : Hp) : An := (rec spec_SquareSolved.id [.sl 1 a0, .int .i64 a1] (H ++ [some (Blk.mk false [])])).bind fun r1 => r1.1.toB.bind fun b2 => bif !b2 then spec_ApartRules.j0 rec k a0 a1 a2 (Sl.mk false H.length 0 0) true r1.2 else (rec spec_l1In.id [.int .i64 a2, .int .i64 0, .int .i64 (IntKind.i64.wrap (a1 - 1))] r1.2).bind fun r3 => r3.1.toB.bind fun b4 => spec_ApartRules.j0 rec k a0 a1 a2 (Sl.mk false H.length 0 0) (!b4) r3.2
theorem spec_ApartRules.j5_eq (rec : Rec) (k : Nat) : ∀ x7 H, spec_ApartRules.j5 rec k x7 H = ex PP (orc spec_ApartRules.id) rec k (sub spec_ApartRules.body [1, 1, 1, 1, 1]) (St.of 72 [(7, .sl 3 x7)] []) H (kAt PP (orc spec_ApartRules.id) rec k spec_ApartRules.body [1, 1, 1, 1, 1] [] (K0 PP Go.Proofs.Try.f34)) := by
  intros x7 H
  unfold spec_ApartRules.j5
  kernel_rfl
theorem spec_ApartRules.j6_eq (rec : Rec) (k : Nat) (n2 : Nat) (L2 : Sl → Int → Sl → Sl → Int → Hp → An) (hL2 : ∀ x0 x2 x7 x8 x9 H, L2 x0 x2 x7 x8 x9 H = iter ((orc spec_ApartRules.id).at (lbody (sub spec_ApartRules.body [1, 1, 1, 1, 0, 1, 0]))) (ex PP (orc spec_ApartRules.id) rec k (lbody (sub spec_ApartRules.body [1, 1, 1, 1, 0, 1, 0]))) (kAt PP (orc spec_ApartRules.id) rec k spec_ApartRules.body [1, 1, 1, 1, 0, 1, 0] [] (K0 PP Go.Proofs.Try.f34)) n2 (St.of 72 [(0, .sl 1 x0), (2, .int .i64 x2), (7, .sl 3 x7), (8, .sl 1 x8), (9, .int .i64 x9)] []) H) : ∀ x0 x2 x7 x8 x9 H, spec_ApartRules.j6 rec k L2 x0 x2 x7 x8 x9 H = ex PP (orc spec_ApartRules.id) rec k (sub spec_ApartRules.body [1, 1, 1, 1, 0, 1, 0, 0, 1, 1]) (St.of 72 [(0, .sl 1 x0), (2, .int .i64 x2), (7, .sl 3 x7), (8, .sl 1 x8), (9, .int .i64 x9)] []) H (kAt PP (orc spec_ApartRules.id) rec k spec_ApartRules.body [1, 1, 1, 1, 0, 1, 0, 0, 1, 1] [n2] (K0 PP Go.Proofs.Try.f34)) := by
  intros x0 x2 x7 x8 x9 H
  unfold spec_ApartRules.j6
  try simp only [hL2]
  kernel_rfl
theorem spec_ApartRules.j4_eq (rec : Rec) (k : Nat) (n2 : Nat) (L2 : Sl → Int → Sl → Sl → Int → Hp → An) (hL2 : ∀ x0 x2 x7 x8 x9 H, L2 x0 x2 x7 x8 x9 H = iter ((orc spec_ApartRules.id).at (lbody (sub spec_ApartRules.body [1, 1, 1, 1, 0, 1, 0]))) (ex PP (orc spec_ApartRules.id) rec k (lbody (sub spec_ApartRules.body [1, 1, 1, 1, 0, 1, 0]))) (kAt PP (orc spec_ApartRules.id) rec k spec_ApartRules.body [1, 1, 1, 1, 0, 1, 0] [] (K0 PP Go.Proofs.Try.f34)) n2 (St.of 72 [(0, .sl 1 x0), (2, .int .i64 x2), (7, .sl 3 x7), (8, .sl 1 x8), (9, .int .i64 x9)] []) H) : ∀ x0 x2 x7 x8 x9 H, spec_ApartRules.j4 rec k L2 x0 x2 x7 x8 x9 H = ex PP (orc spec_ApartRules.id) rec k (sub spec_ApartRules.body [1, 1, 1, 1, 0, 1, 0, 0, 1]) (St.of 72 [(0, .sl 1 x0), (2, .int .i64 x2), (7, .sl 3 x7), (8, .sl 1 x8), (9, .int .i64 x9)] []) H (kAt PP (orc spec_ApartRules.id) rec k spec_ApartRules.body [1, 1, 1, 1, 0, 1, 0, 0, 1] [n2] (K0 PP Go.Proofs.Try.f34)) := by
  intros x0 x2 x7 x8 x9 H
  unfold spec_ApartRules.j4
  try simp only [hL2, spec_ApartRules.j6_eq rec k n2 L2 hL2]
  kernel_rfl
theorem spec_ApartRules.j3_eq (rec : Rec) (k : Nat) (n2 : Nat) (L2 : Sl → Int → Sl → Sl → Int → Hp → An) (hL2 : ∀ x0 x2 x7 x8 x9 H, L2 x0 x2 x7 x8 x9 H = iter ((orc spec_ApartRules.id).at (lbody (sub spec_ApartRules.body [1, 1, 1, 1, 0, 1, 0]))) (ex PP (orc spec_ApartRules.id) rec k (lbody (sub spec_ApartRules.body [1, 1, 1, 1, 0, 1, 0]))) (kAt PP (orc spec_ApartRules.id) rec k spec_ApartRules.body [1, 1, 1, 1, 0, 1, 0] [] (K0 PP Go.Proofs.Try.f34)) n2 (St.of 72 [(0, .sl 1 x0), (2, .int .i64 x2), (7, .sl 3 x7), (8, .sl 1 x8), (9, .int .i64 x9)] []) H) : ∀ x0 x2 x7 x8 x9 x34 H, spec_ApartRules.j3 rec k L2 x0 x2 x7 x8 x9 x34 H = ex PP (orc spec_ApartRules.id) rec k (sub spec_ApartRules.body [1, 1, 1, 1, 0, 1, 0, 0, 0, 1]) (St.of 72 [(0, .sl 1 x0), (2, .int .i64 x2), (7, .sl 3 x7), (8, .sl 1 x8), (9, .int .i64 x9), (34, .bool x34)] []) H (kAt PP (orc spec_ApartRules.id) rec k spec_ApartRules.body [1, 1, 1, 1, 0, 1, 0, 0, 0, 1] [n2] (K0 PP Go.Proofs.Try.f34)) := by
  intros x0 x2 x7 x8 x9 x34 H
  unfold spec_ApartRules.j3
  try simp only [hL2, spec_ApartRules.j4_eq rec k n2 L2 hL2, spec_ApartRules.j5_eq rec k]
  kernel_rfl
theorem spec_ApartRules.l2_eq (rec : Rec) (k : Nat) : ∀ n x0 x2 x7 x8 x9 H, spec_ApartRules.l2 rec k n x0 x2 x7 x8 x9 H = iter ((orc spec_ApartRules.id).at (lbody (sub spec_ApartRules.body [1, 1, 1, 1, 0, 1, 0]))) (ex PP (orc spec_ApartRules.id) rec k (lbody (sub spec_ApartRules.body [1, 1, 1, 1, 0, 1, 0]))) (kAt PP (orc spec_ApartRules.id) rec k spec_ApartRules.body [1, 1, 1, 1, 0, 1, 0] [] (K0 PP Go.Proofs.Try.f34)) n (St.of 72 [(0, .sl 1 x0), (2, .int .i64 x2), (7, .sl 3 x7), (8, .sl 1 x8), (9, .int .i64 x9)] []) H := by
  intro n
  induction n with
  | zero => intros; rfl
  | succ n ih =>
    intros x0 x2 x7 x8 x9 H
    simp only [spec_ApartRules.l2, spec_ApartRules.j3_eq rec k n (spec_ApartRules.l2 rec k n) (fun x0 x2 x7 x8 x9 H => ih x0 x2 x7 x8 x9 H), ih]
    kernel_rfl
theorem spec_ApartRules.j1_eq (rec : Rec) (k : Nat) : ∀ x0 x1 x2 x7 H, spec_ApartRules.j1 rec k x0 x1 x2 x7 H = ex PP (orc spec_ApartRules.id) rec k (sub spec_ApartRules.body [1, 1, 1]) (St.of 72 [(0, .sl 1 x0), (1, .int .i64 x1), (2, .int .i64 x2), (7, .sl 3 x7)] []) H (kAt PP (orc spec_ApartRules.id) rec k spec_ApartRules.body [1, 1, 1] [] (K0 PP Go.Proofs.Try.f34)) := by
  intros x0 x1 x2 x7 H
  unfold spec_ApartRules.j1
  try simp only [spec_ApartRules.l2_eq rec k]
  kernel_rfl
theorem spec_ApartRules.j0_eq (rec : Rec) (k : Nat) : ∀ x0 x1 x2 x7 x22 H, spec_ApartRules.j0 rec k x0 x1 x2 x7 x22 H = ex PP (orc spec_ApartRules.id) rec k (sub spec_ApartRules.body [1, 1, 0, 1]) (St.of 72 [(0, .sl 1 x0), (1, .int .i64 x1), (2, .int .i64 x2), (7, .sl 3 x7), (22, .bool x22)] []) H (kAt PP (orc spec_ApartRules.id) rec k spec_ApartRules.body [1, 1, 0, 1] [] (K0 PP Go.Proofs.Try.f34)) := by
  intros x0 x1 x2 x7 x22 H
  unfold spec_ApartRules.j0
  try simp only [spec_ApartRules.j1_eq rec k]
  kernel_rfl
theorem spec_ApartRules.f_eq (rec : Rec) (k : Nat) : ∀ a0 a1 a2 H, spec_ApartRules.f rec k a0 a1 a2 H = ex PP (orc spec_ApartRules.id) rec k spec_ApartRules.body (St.of 72 [(0, .sl 1 a0), (1, .int .i64 a1), (2, .int .i64 a2)] []) H (K0 PP Go.Proofs.Try.f34) := by
  intros a0 a1 a2 H
  unfold spec_ApartRules.f
  try simp only [spec_ApartRules.j0_eq rec k]
  kernel_rfl
theorem spec_ApartRules.call (k : Nat) : ∀ a0 a1 a2 H, callF PP orc (k + 1) spec_ApartRules.id [.sl 1 a0, .int .i64 a1, .int .i64 a2] H = spec_ApartRules.f (callF PP orc k) k a0 a1 a2 H := by
  intros a0 a1 a2 H
  rw [callF_at (fn := Go.Proofs.Try.f34) (c := spec_ApartRules.body) Go.Proofs.Try.func34 (by kernel_rfl) (Nat.le_of_ble_eq_true (by kernel_rfl)), spec_ApartRules.f_eq]
  kernel_rfl
noncomputable def impl_LessRules.body : Code := (Go.Proofs.Try.f37).body.getD .skip
def impl_LessRules.j4 (rec : Rec) (k : Nat) (x2 : Int) (x7 : Sl) (H : Hp) : An := if (0 ≤ (0 : Int) ∧ (0 : Int) ≤ mn x2 (x7.len : Int) ∧ (mn x2 (x7.len : Int) : Int) ≤ x7.len ∧ (mn x2 (x7.len : Int) : Int) = mn x2 (x7.len : Int)) ∧ 0 < 3 ∧ true = true then (rec slices_Clip___impl_Rule_impl_Rule_.id [.sl 3 (Sl.mk x7.nil x7.blk (x7.off + (0 : Int).toNat * 3) ((mn x2 (x7.len : Int) : Int) - 0).toNat)] H).bind fun r19 => (r19.1.toS 3).bind fun s20 => some (.sl 3 s20, r19.2) else none
def impl_LessRules.j5 (rec : Rec) (k : Nat) (L2 : Sl → Int → Sl → Sl → Int → Int → Hp → An) (x0 : Sl) (x2 : Int) (x7 : Sl) (x24 : Sl) (x25 : Int) (x26 : Int) (H : Hp) : An := L2 x0 x2 x7 x24 x25 (IntKind.i64.wrap (x26 + 1)) H
def impl_LessRules.j3 (rec : Rec) (k : Nat) (L2 : Sl → Int → Sl → Sl → Int → Int → Hp → An) (x0 : Sl) (x2 : Int) (x7 : Sl) (x9b : Nat) (x9o : Nat) (x24 : Sl) (x25 : Int) (x26 : Int) (H : Hp) : An := bif decide (0 ≤ (0 : Int)) && decide ((0 : Int) < ((2 : Nat) : Int)) then (ldI .i64 H x9b (x9o + (0 : Int).toNat * 1)).bind fun n16 => bif decide (0 ≤ (1 : Int)) && decide ((1 : Int) < ((2 : Nat) : Int)) then (ldI .i64 H x9b (x9o + (1 : Int).toNat * 1)).bind fun n17 => ((H ++ [some (Blk.mk false [.int .i64 n16, .int .i64 n17])]).app 3 x7 1 [.int .i64 4, .sl 1 (Sl.mk false H.length 0 2), .int .i64 0]).bind fun a18 => impl_LessRules.j5 rec k L2 x0 x2 a18.1 x24 x25 x26 a18.2 else none else none
def impl_LessRules.l2 (rec : Rec) (k : Nat) : Nat → Sl → Int → Sl → Sl → Int → Int → Hp → An
  | 0, _, _, _, _, _, _, _ => none
  | n + 1, x0, x2, x7, x24, x25, x26, H => bif decide (x26 < x25) then bif decide (0 ≤ (x26 : Int)) && decide ((x26 : Int) < x24.len) then (ldI .i64 H x24.blk (x24.off + (x26 : Int).toNat * 2)).bind fun n5 => (ldI .i64 H x24.blk (x24.off + (x26 : Int).toNat * 2 + 1)).bind fun n6 => ((H ++ [some (Blk.mk false [.int .i64 0, .int .i64 0])]).sto H.length 0 [.int .i64 n5, .int .i64 n6]).bind fun H7 => bif decide (0 ≤ (0 : Int)) && decide ((0 : Int) < ((2 : Nat) : Int)) then (ldI .i64 H7 H.length (0 + (0 : Int).toNat * 1)).bind fun n8 => bif decide (0 ≤ (n8 : Int)) && decide ((n8 : Int) < x0.len) then (ldI .i64 H7 x0.blk (x0.off + (n8 : Int).toNat * 1)).bind fun n9 => bif decide (0 ≤ (1 : Int)) && decide ((1 : Int) < ((2 : Nat) : Int)) then (ldI .i64 H7 H.length (0 + (1 : Int).toNat * 1)).bind fun n10 => bif decide (0 ≤ (n10 : Int)) && decide ((n10 : Int) < x0.len) then (ldI .i64 H7 x0.blk (x0.off + (n10 : Int).toNat * 1)).bind fun n11 => bif decide (n9 > n11) then bif decide (0 ≤ (1 : Int)) && decide ((1 : Int) < ((2 : Nat) : Int)) then (ldI .i64 H7 H.length (0 + (1 : Int).toNat * 1)).bind fun n12 => bif decide (0 ≤ (0 : Int)) && decide ((0 : Int) < ((2 : Nat) : Int)) then (ldI .i64 H7 H.length (0 + (0 : Int).toNat * 1)).bind fun n13 => bif decide (0 ≤ (0 : Int)) && decide ((0 : Int) < ((2 : Nat) : Int)) then (H7.sto H.length (0 + (0 : Int).toNat * 1) [.int .i64 n12]).bind fun H14 => bif decide (0 ≤ (1 : Int)) && decide ((1 : Int) < ((2 : Nat) : Int)) then (H14.sto H.length (0 + (1 : Int).toNat * 1) [.int .i64 n13]).bind fun H15 => impl_LessRules.j3 rec k (impl_LessRules.l2 rec k n) x0 x2 x7 H.length 0 x24 x25 x26 H15 else none else none else none else none else impl_LessRules.j3 rec k (impl_LessRules.l2 rec k n) x0 x2 x7 H.length 0 x24 x25 x26 H7 else none else none else none else none else none else impl_LessRules.j4 rec k x2 x7 H
def impl_LessRules.j1 (rec : Rec) (k : Nat) (x0 : Sl) (x1 : Int) (x2 : Int) (H : Hp) : An := (rec impl_neighbours.id [.int .i64 x1] (H ++ [some (Blk.mk false [])])).bind fun r3 => (r3.1.toS 2).bind fun s4 => impl_LessRules.l2 rec k k x0 x2 (Sl.mk false H.length 0 0) s4 (s4.len : Int) 0 r3.2
def impl_LessRules.j0 (rec : Rec) (k : Nat) (x0 : Sl) (x1 : Int) (x2 : Int) (x21 : Bool) (H : Hp) : An := bif x21 then some (.sl 3 Sl.none, H) else impl_LessRules.j1 rec k x0 x1 x2 H
def impl_LessRules.f (rec : Rec) (k : Nat) (a0 : Sl) (a1 : Int) (a2 : Int) (H : Hp) : An := (rec impl_SquareSolved.id [.sl 1 a0, .int .i64 a1] H).bind fun r1 => r1.1.toB.bind fun b2 => bif !b2 then impl_LessRules.j0 rec k a0 a1 a2 true r1.2 else bif decide (a2 < 0) then impl_LessRules.j0 rec k a0 a1 a2 true r1.2 else impl_LessRules.j0 rec k a0 a1 a2 (decide (a2 > 20)) r1.2
theorem impl_LessRules.j4_eq (rec : Rec) (k : Nat) : ∀ x2 x7 H, impl_LessRules.j4 rec k x2 x7 H = ex PP (orc impl_LessRules.id) rec k (sub impl_LessRules.body [1, 1, 1, 1]) (St.of 64 [(2, .int .i64 x2), (7, .sl 3 x7)] []) H (kAt PP (orc impl_LessRules.id) rec k impl_LessRules.body [1, 1, 1, 1] [] (K0 PP Go.Proofs.Try.f37)) := by
  intros x2 x7 H
  unfold impl_LessRules.j4
  kernel_rfl
theorem impl_LessRules.j5_eq (rec : Rec) (k : Nat) (n2 : Nat) (L2 : Sl → Int → Sl → Sl → Int → Int → Hp → An) (hL2 : ∀ x0 x2 x7 x24 x25 x26 H, L2 x0 x2 x7 x24 x25 x26 H = iter ((orc impl_LessRules.id).at (lbody (sub impl_LessRules.body [1, 1, 1, 0, 1, 0]))) (ex PP (orc impl_LessRules.id) rec k (lbody (sub impl_LessRules.body [1, 1, 1, 0, 1, 0]))) (kAt PP (orc impl_LessRules.id) rec k impl_LessRules.body [1, 1, 1, 0, 1, 0] [] (K0 PP Go.Proofs.Try.f37)) n2 (St.of 64 [(0, .sl 1 x0), (2, .int .i64 x2), (7, .sl 3 x7), (24, .sl 2 x24), (25, .int .i64 x25), (26, .int .i64 x26)] []) H) : ∀ x0 x2 x7 x24 x25 x26 H, impl_LessRules.j5 rec k L2 x0 x2 x7 x24 x25 x26 H = ex PP (orc impl_LessRules.id) rec k (sub impl_LessRules.body [1, 1, 1, 0, 1, 0, 0, 1, 1, 1]) (St.of 64 [(0, .sl 1 x0), (2, .int .i64 x2), (7, .sl 3 x7), (24, .sl 2 x24), (25, .int .i64 x25), (26, .int .i64 x26)] []) H (kAt PP (orc impl_LessRules.id) rec k impl_LessRules.body [1, 1, 1, 0, 1, 0, 0, 1, 1, 1] [n2] (K0 PP Go.Proofs.Try.f37)) := by
  intros x0 x2 x7 x24 x25 x26 H
  unfold impl_LessRules.j5
  try simp only [hL2]
  kernel_rfl
theorem impl_LessRules.j3_eq (rec : Rec) (k : Nat) (n2 : Nat) (L2 : Sl → Int → Sl → Sl → Int → Int → Hp → An) (hL2 : ∀ x0 x2 x7 x24 x25 x26 H, L2 x0 x2 x7 x24 x25 x26 H = iter ((orc impl_LessRules.id).at (lbody (sub impl_LessRules.body [1, 1, 1, 0, 1, 0]))) (ex PP (orc impl_LessRules.id) rec k (lbody (sub impl_LessRules.body [1, 1, 1, 0, 1, 0]))) (kAt PP (orc impl_LessRules.id) rec k impl_LessRules.body [1, 1, 1, 0, 1, 0] [] (K0 PP Go.Proofs.Try.f37)) n2 (St.of 64 [(0, .sl 1 x0), (2, .int .i64 x2), (7, .sl 3 x7), (24, .sl 2 x24), (25, .int .i64 x25), (26, .int .i64 x26)] []) H) : ∀ x0 x2 x7 x9b x9o x24 x25 x26 H, impl_LessRules.j3 rec k L2 x0 x2 x7 x9b x9o x24 x25 x26 H = ex PP (orc impl_LessRules.id) rec k (sub impl_LessRules.body [1, 1, 1, 0, 1, 0, 0, 1, 1, 0, 0, 1, 1]) (St.of 64 [(0, .sl 1 x0), (2, .int .i64 x2), (7, .sl 3 x7), (9, .ptr x9b x9o), (24, .sl 2 x24), (25, .int .i64 x25), (26, .int .i64 x26)] []) H (kAt PP (orc impl_LessRules.id) rec k impl_LessRules.body [1, 1, 1, 0, 1, 0, 0, 1, 1, 0, 0, 1, 1] [n2] (K0 PP Go.Proofs.Try.f37)) := by
  intros x0 x2 x7 x9b x9o x24 x25 x26 H
  unfold impl_LessRules.j3
  try simp only [hL2, impl_LessRules.j5_eq rec k n2 L2 hL2]
  kernel_rfl
theorem impl_LessRules.l2_eq (rec : Rec) (k : Nat) : ∀ n x0 x2 x7 x24 x25 x26 H, impl_LessRules.l2 rec k n x0 x2 x7 x24 x25 x26 H = iter ((orc impl_LessRules.id).at (lbody (sub impl_LessRules.body [1, 1, 1, 0, 1, 0]))) (ex PP (orc impl_LessRules.id) rec k (lbody (sub impl_LessRules.body [1, 1, 1, 0, 1, 0]))) (kAt PP (orc impl_LessRules.id) rec k impl_LessRules.body [1, 1, 1, 0, 1, 0] [] (K0 PP Go.Proofs.Try.f37)) n (St.of 64 [(0, .sl 1 x0), (2, .int .i64 x2), (7, .sl 3 x7), (24, .sl 2 x24), (25, .int .i64 x25), (26, .int .i64 x26)] []) H := by
  intro n
  induction n with
  | zero => intros; rfl
  | succ n ih =>
    intros x0 x2 x7 x24 x25 x26 H
    simp only [impl_LessRules.l2, impl_LessRules.j3_eq rec k n (impl_LessRules.l2 rec k n) (fun x0 x2 x7 x24 x25 x26 H => ih x0 x2 x7 x24 x25 x26 H), impl_LessRules.j4_eq rec k, ih]
    kernel_rfl
theorem impl_LessRules.j1_eq (rec : Rec) (k : Nat) : ∀ x0 x1 x2 H, impl_LessRules.j1 rec k x0 x1 x2 H = ex PP (orc impl_LessRules.id) rec k (sub impl_LessRules.body [1, 1]) (St.of 64 [(0, .sl 1 x0), (1, .int .i64 x1), (2, .int .i64 x2)] []) H (kAt PP (orc impl_LessRules.id) rec k impl_LessRules.body [1, 1] [] (K0 PP Go.Proofs.Try.f37)) := by
  intros x0 x1 x2 H
  unfold impl_LessRules.j1
  try simp only [impl_LessRules.l2_eq rec k]
  kernel_rfl
theorem impl_LessRules.j0_eq (rec : Rec) (k : Nat) : ∀ x0 x1 x2 x21 H, impl_LessRules.j0 rec k x0 x1 x2 x21 H = ex PP (orc impl_LessRules.id) rec k (sub impl_LessRules.body [1, 0, 1]) (St.of 64 [(0, .sl 1 x0), (1, .int .i64 x1), (2, .int .i64 x2), (21, .bool x21)] []) H (kAt PP (orc impl_LessRules.id) rec k impl_LessRules.body [1, 0, 1] [] (K0 PP Go.Proofs.Try.f37)) := by
  intros x0 x1 x2 x21 H
  unfold impl_LessRules.j0
  try simp only [impl_LessRules.j1_eq rec k]
  kernel_rfl
theorem impl_LessRules.f_eq (rec : Rec) (k : Nat) : ∀ a0 a1 a2 H, impl_LessRules.f rec k a0 a1 a2 H = ex PP (orc impl_LessRules.id) rec k impl_LessRules.body (St.of 64 [(0, .sl 1 a0), (1, .int .i64 a1), (2, .int .i64 a2)] []) H (K0 PP Go.Proofs.Try.f37) := by
  intros a0 a1 a2 H
  unfold impl_LessRules.f
  try simp only [impl_LessRules.j0_eq rec k]
  kernel_rfl
theorem impl_LessRules.call (k : Nat) : ∀ a0 a1 a2 H, callF PP orc (k + 1) impl_LessRules.id [.sl 1 a0, .int .i64 a1, .int .i64 a2] H = impl_LessRules.f (callF PP orc k) k a0 a1 a2 H := by
  intros a0 a1 a2 H
  rw [callF_at (fn := Go.Proofs.Try.f37) (c := impl_LessRules.body) Go.Proofs.Try.func37 (by kernel_rfl) (Nat.le_of_ble_eq_true (by kernel_rfl)), impl_LessRules.f_eq]
  kernel_rfl
noncomputable def spec_LessRules.body : Code := (Go.Proofs.Try.f36).body.getD .skip
def spec_LessRules.j5 (rec : Rec) (k : Nat) (x7 : Sl) (H : Hp) : An := some (.sl 3 x7, H)
def spec_LessRules.j7 (rec : Rec) (k : Nat) (L2 : Sl → Int → Sl → Sl → Int → Hp → An) (x0 : Sl) (x2 : Int) (x7 : Sl) (x8 : Sl) (x9 : Int) (H : Hp) : An := L2 x0 x2 x7 x8 (IntKind.i64.wrap (x9 + 1)) H
def spec_LessRules.j6 (rec : Rec) (k : Nat) (L2 : Sl → Int → Sl → Sl → Int → Hp → An) (x0 : Sl) (x2 : Int) (x7 : Sl) (x8 : Sl) (x9 : Int) (x10 : Int) (x11 : Int) (H : Hp) : An := ((H ++ [some (Blk.mk false [.int .i64 x10, .int .i64 x11])]).app 3 x7 1 [.int .i64 4, .sl 1 (Sl.mk false H.length 0 2), .int .i64 0]).bind fun a17 => spec_LessRules.j7 rec k L2 x0 x2 a17.1 x8 x9 a17.2
def spec_LessRules.j4 (rec : Rec) (k : Nat) (L2 : Sl → Int → Sl → Sl → Int → Hp → An) (x0 : Sl) (x2 : Int) (x7 : Sl) (x8 : Sl) (x9 : Int) (H : Hp) : An := bif decide (0 ≤ (x9 : Int)) && decide ((x9 : Int) < x8.len) then (ldS 1 H x8.blk (x8.off + (x9 : Int).toNat * 1)).bind fun s7 => bif decide (0 ≤ (0 : Int)) && decide ((0 : Int) < s7.len) then (ldI .i64 H s7.blk (s7.off + (0 : Int).toNat * 1)).bind fun n8 => bif decide (0 ≤ (x9 : Int)) && decide ((x9 : Int) < x8.len) then (ldS 1 H x8.blk (x8.off + (x9 : Int).toNat * 1)).bind fun s9 => bif decide (0 ≤ (1 : Int)) && decide ((1 : Int) < s9.len) then (ldI .i64 H s9.blk (s9.off + (1 : Int).toNat * 1)).bind fun n10 => bif decide (0 ≤ (n8 : Int)) && decide ((n8 : Int) < x0.len) then (ldI .i64 H x0.blk (x0.off + (n8 : Int).toNat * 1)).bind fun n11 => bif decide (0 ≤ (n10 : Int)) && decide ((n10 : Int) < x0.len) then (ldI .i64 H x0.blk (x0.off + (n10 : Int).toNat * 1)).bind fun n12 => bif decide (n11 > n12) then bif decide (0 ≤ (x9 : Int)) && decide ((x9 : Int) < x8.len) then (ldS 1 H x8.blk (x8.off + (x9 : Int).toNat * 1)).bind fun s13 => bif decide (0 ≤ (1 : Int)) && decide ((1 : Int) < s13.len) then (ldI .i64 H s13.blk (s13.off + (1 : Int).toNat * 1)).bind fun n14 => bif decide (0 ≤ (x9 : Int)) && decide ((x9 : Int) < x8.len) then (ldS 1 H x8.blk (x8.off + (x9 : Int).toNat * 1)).bind fun s15 => bif decide (0 ≤ (0 : Int)) && decide ((0 : Int) < s15.len) then (ldI .i64 H s15.blk (s15.off + (0 : Int).toNat * 1)).bind fun n16 => spec_LessRules.j6 rec k L2 x0 x2 x7 x8 x9 n14 n16 H else none else none else none else none else spec_LessRules.j6 rec k L2 x0 x2 x7 x8 x9 n8 n10 H else none else none else none else none else none else none
def spec_LessRules.j3 (rec : Rec) (k : Nat) (L2 : Sl → Int → Sl → Sl → Int → Hp → An) (x0 : Sl) (x2 : Int) (x7 : Sl) (x8 : Sl) (x9 : Int) (x34 : Bool) (H : Hp) : An := bif x34 then spec_LessRules.j4 rec k L2 x0 x2 x7 x8 x9 H else spec_LessRules.j5 rec k x7 H
def spec_LessRules.l2 (rec : Rec) (k : Nat) : Nat → Sl → Int → Sl → Sl → Int → Hp → An
  | 0, _, _, _, _, _, _ => none
  | n + 1, x0, x2, x7, x8, x9, H => bif decide (x9 < (x8.len : Int)) then spec_LessRules.j3 rec k (spec_LessRules.l2 rec k n) x0 x2 x7 x8 x9 (decide ((x7.len : Int) < x2)) H else spec_LessRules.j3 rec k (spec_LessRules.l2 rec k n) x0 x2 x7 x8 x9 false H
def spec_LessRules.j1 (rec : Rec) (k : Nat) (x0 : Sl) (x1 : Int) (x2 : Int) (x7 : Sl) (H : Hp) : An := (rec spec_l19Pairs.id [.int .i64 x1] H).bind fun r5 => (r5.1.toS 1).bind fun s6 => spec_LessRules.l2 rec k k x0 x2 x7 s6 0 r5.2
def spec_LessRules.j0 (rec : Rec) (k : Nat) (x0 : Sl) (x1 : Int) (x2 : Int) (x7 : Sl) (x21 : Bool) (H : Hp) : An := bif x21 then some (.sl 3 x7, H) else spec_LessRules.j1 rec k x0 x1 x2 x7 H
def spec_LessRules.f (rec : Rec) (k : Nat) (a0 : Sl) (a1 : Int) (a2 : Int) (H : Hp) : An := (rec spec_SquareSolved.id [.sl 1 a0, .int .i64 a1] (H ++ [some (Blk.mk false [])])).bind fun r1 => r1.1.toB.bind fun b2 => bif !b2 then spec_LessRules.j0 rec k a0 a1 a2 (Sl.mk false H.length 0 0) true r1.2 else (rec spec_l1In.id [.int .i64 a2, .int .i64 0, .int .i64 20] r1.2).bind fun r3 => r3.1.toB.bind fun b4 => spec_LessRules.j0 rec k a0 a1 a2 (Sl.mk false H.length 0 0) (!b4) r3.2
theorem spec_LessRules.j5_eq (rec : Rec) (k : Nat) : ∀ x7 H, spec_LessRules.j5 rec k x7 H = ex PP (orc spec_LessRules.id) rec k (sub spec_LessRules.body [1, 1, 1, 1, 1]) (St.of 78 [(7, .sl 3 x7)] []) H (kAt PP (orc spec_LessRules.id) rec k spec_LessRules.body [1, 1, 1, 1, 1] [] (K0 PP Go.Proofs.Try.f36)) := by
  intros x7 H
  unfold spec_LessRules.j5
  kernel_rfl
theorem spec_LessRules.j7_eq (rec : Rec) (k : Nat) (n2 : Nat) (L2 : Sl → Int → Sl → Sl → Int → Hp → An) (hL2 : ∀ x0 x2 x7 x8 x9 H, L2 x0 x2 x7 x8 x9 H = iter ((orc spec_LessRules.id).at (lbody (sub spec_LessRules.body [1, 1, 1, 1, 0, 1, 0]))) (ex PP (orc spec_LessRules.id) rec k (lbody (sub spec_LessRules.body [1, 1, 1, 1, 0, 1, 0]))) (kAt PP (orc spec_LessRules.id) rec k spec_LessRules.body [1, 1, 1, 1, 0, 1, 0] [] (K0 PP Go.Proofs.Try.f36)) n2 (St.of 78 [(0, .sl 1 x0), (2, .int .i64 x2), (7, .sl 3 x7), (8, .sl 1 x8), (9, .int .i64 x9)] []) H) : ∀ x0 x2 x7 x8 x9 H, spec_LessRules.j7 rec k L2 x0 x2 x7 x8 x9 H = ex PP (orc spec_LessRules.id) rec k (sub spec_LessRules.body [1, 1, 1, 1, 0, 1, 0, 0, 1, 1]) (St.of 78 [(0, .sl 1 x0), (2, .int .i64 x2), (7, .sl 3 x7), (8, .sl 1 x8), (9, .int .i64 x9)] []) H (kAt PP (orc spec_LessRules.id) rec k spec_LessRules.body [1, 1, 1, 1, 0, 1, 0, 0, 1, 1] [n2] (K0 PP Go.Proofs.Try.f36)) := by
  intros x0 x2 x7 x8 x9 H
  unfold spec_LessRules.j7
  try simp only [hL2]
  kernel_rfl
theorem spec_LessRules.j6_eq (rec : Rec) (k : Nat) (n2 : Nat) (L2 : Sl → Int → Sl → Sl → Int → Hp → An) (hL2 : ∀ x0 x2 x7 x8 x9 H, L2 x0 x2 x7 x8 x9 H = iter ((orc spec_LessRules.id).at (lbody (sub spec_LessRules.body [1, 1, 1, 1, 0, 1, 0]))) (ex PP (orc spec_LessRules.id) rec k (lbody (sub spec_LessRules.body [1, 1, 1, 1, 0, 1, 0]))) (kAt PP (orc spec_LessRules.id) rec k spec_LessRules.body [1, 1, 1, 1, 0, 1, 0] [] (K0 PP Go.Proofs.Try.f36)) n2 (St.of 78 [(0, .sl 1 x0), (2, .int .i64 x2), (7, .sl 3 x7), (8, .sl 1 x8), (9, .int .i64 x9)] []) H) : ∀ x0 x2 x7 x8 x9 x10 x11 H, spec_LessRules.j6 rec k L2 x0 x2 x7 x8 x9 x10 x11 H = ex PP (orc spec_LessRules.id) rec k (sub spec_LessRules.body [1, 1, 1, 1, 0, 1, 0, 0, 1, 0, 0, 1, 1, 1]) (St.of 78 [(0, .sl 1 x0), (2, .int .i64 x2), (7, .sl 3 x7), (8, .sl 1 x8), (9, .int .i64 x9), (10, .int .i64 x10), (11, .int .i64 x11)] []) H (kAt PP (orc spec_LessRules.id) rec k spec_LessRules.body [1, 1, 1, 1, 0, 1, 0, 0, 1, 0, 0, 1, 1, 1] [n2] (K0 PP Go.Proofs.Try.f36)) := by
  intros x0 x2 x7 x8 x9 x10 x11 H
  unfold spec_LessRules.j6
  try simp only [hL2, spec_LessRules.j7_eq rec k n2 L2 hL2]
  kernel_rfl
theorem spec_LessRules.j4_eq (rec : Rec) (k : Nat) (n2 : Nat) (L2 : Sl → Int → Sl → Sl → Int → Hp → An) (hL2 : ∀ x0 x2 x7 x8 x9 H, L2 x0 x2 x7 x8 x9 H = iter ((orc spec_LessRules.id).at (lbody (sub spec_LessRules.body [1, 1, 1, 1, 0, 1, 0]))) (ex PP (orc spec_LessRules.id) rec k (lbody (sub spec_LessRules.body [1, 1, 1, 1, 0, 1, 0]))) (kAt PP (orc spec_LessRules.id) rec k spec_LessRules.body [1, 1, 1, 1, 0, 1, 0] [] (K0 PP Go.Proofs.Try.f36)) n2 (St.of 78 [(0, .sl 1 x0), (2, .int .i64 x2), (7, .sl 3 x7), (8, .sl 1 x8), (9, .int .i64 x9)] []) H) : ∀ x0 x2 x7 x8 x9 H, spec_LessRules.j4 rec k L2 x0 x2 x7 x8 x9 H = ex PP (orc spec_LessRules.id) rec k (sub spec_LessRules.body [1, 1, 1, 1, 0, 1, 0, 0, 1]) (St.of 78 [(0, .sl 1 x0), (2, .int .i64 x2), (7, .sl 3 x7), (8, .sl 1 x8), (9, .int .i64 x9)] []) H (kAt PP (orc spec_LessRules.id) rec k spec_LessRules.body [1, 1, 1, 1, 0, 1, 0, 0, 1] [n2] (K0 PP Go.Proofs.Try.f36)) := by
  intros x0 x2 x7 x8 x9 H
  unfold spec_LessRules.j4
  try simp only [hL2, spec_LessRules.j6_eq rec k n2 L2 hL2]
  kernel_rfl
theorem spec_LessRules.j3_eq (rec : Rec) (k : Nat) (n2 : Nat) (L2 : Sl → Int → Sl → Sl → Int → Hp → An) (hL2 : ∀ x0 x2 x7 x8 x9 H, L2 x0 x2 x7 x8 x9 H = iter ((orc spec_LessRules.id).at (lbody (sub spec_LessRules.body [1, 1, 1, 1, 0, 1, 0]))) (ex PP (orc spec_LessRules.id) rec k (lbody (sub spec_LessRules.body [1, 1, 1, 1, 0, 1, 0]))) (kAt PP (orc spec_LessRules.id) rec k spec_LessRules.body [1, 1, 1, 1, 0, 1, 0] [] (K0 PP Go.Proofs.Try.f36)) n2 (St.of 78 [(0, .sl 1 x0), (2, .int .i64 x2), (7, .sl 3 x7), (8, .sl 1 x8), (9, .int .i64 x9)] []) H) : ∀ x0 x2 x7 x8 x9 x34 H, spec_LessRules.j3 rec k L2 x0 x2 x7 x8 x9 x34 H = ex PP (orc spec_LessRules.id) rec k (sub spec_LessRules.body [1, 1, 1, 1, 0, 1, 0, 0, 0, 1]) (St.of 78 [(0, .sl 1 x0), (2, .int .i64 x2), (7, .sl 3 x7), (8, .sl 1 x8), (9, .int .i64 x9), (34, .bool x34)] []) H (kAt PP (orc spec_LessRules.id) rec k spec_LessRules.body [1, 1, 1, 1, 0, 1, 0, 0, 0, 1] [n2] (K0 PP Go.Proofs.Try.f36)) := by
  intros x0 x2 x7 x8 x9 x34 H
  unfold spec_LessRules.j3
  try simp only [hL2, spec_LessRules.j4_eq rec k n2 L2 hL2, spec_LessRules.j5_eq rec k]
  kernel_rfl
theorem spec_LessRules.l2_eq (rec : Rec) (k : Nat) : ∀ n x0 x2 x7 x8 x9 H, spec_LessRules.l2 rec k n x0 x2 x7 x8 x9 H = iter ((orc spec_LessRules.id).at (lbody (sub spec_LessRules.body [1, 1, 1, 1, 0, 1, 0]))) (ex PP (orc spec_LessRules.id) rec k (lbody (sub spec_LessRules.body [1, 1, 1, 1, 0, 1, 0]))) (kAt PP (orc spec_LessRules.id) rec k spec_LessRules.body [1, 1, 1, 1, 0, 1, 0] [] (K0 PP Go.Proofs.Try.f36)) n (St.of 78 [(0, .sl 1 x0), (2, .int .i64 x2), (7, .sl 3 x7), (8, .sl 1 x8), (9, .int .i64 x9)] []) H := by
  intro n
  induction n with
  | zero => intros; rfl
  | succ n ih =>
    intros x0 x2 x7 x8 x9 H
    simp only [spec_LessRules.l2, spec_LessRules.j3_eq rec k n (spec_LessRules.l2 rec k n) (fun x0 x2 x7 x8 x9 H => ih x0 x2 x7 x8 x9 H), ih]
    kernel_rfl
theorem spec_LessRules.j1_eq (rec : Rec) (k : Nat) : ∀ x0 x1 x2 x7 H, spec_LessRules.j1 rec k x0 x1 x2 x7 H = ex PP (orc spec_LessRules.id) rec k (sub spec_LessRules.body [1, 1, 1]) (St.of 78 [(0, .sl 1 x0), (1, .int .i64 x1), (2, .int .i64 x2), (7, .sl 3 x7)] []) H (kAt PP (orc spec_LessRules.id) rec k spec_LessRules.body [1, 1, 1] [] (K0 PP Go.Proofs.Try.f36)) := by
  intros x0 x1 x2 x7 H
  unfold spec_LessRules.j1
  try simp only [spec_LessRules.l2_eq rec k]
  kernel_rfl
theorem spec_LessRules.j0_eq (rec : Rec) (k : Nat) : ∀ x0 x1 x2 x7 x21 H, spec_LessRules.j0 rec k x0 x1 x2 x7 x21 H = ex PP (orc spec_LessRules.id) rec k (sub spec_LessRules.body [1, 1, 0, 1]) (St.of 78 [(0, .sl 1 x0), (1, .int .i64 x1), (2, .int .i64 x2), (7, .sl 3 x7), (21, .bool x21)] []) H (kAt PP (orc spec_LessRules.id) rec k spec_LessRules.body [1, 1, 0, 1] [] (K0 PP Go.Proofs.Try.f36)) := by
  intros x0 x1 x2 x7 x21 H
  unfold spec_LessRules.j0
  try simp only [spec_LessRules.j1_eq rec k]
  kernel_rfl
theorem spec_LessRules.f_eq (rec : Rec) (k : Nat) : ∀ a0 a1 a2 H, spec_LessRules.f rec k a0 a1 a2 H = ex PP (orc spec_LessRules.id) rec k spec_LessRules.body (St.of 78 [(0, .sl 1 a0), (1, .int .i64 a1), (2, .int .i64 a2)] []) H (K0 PP Go.Proofs.Try.f36) := by
  intros a0 a1 a2 H
  unfold spec_LessRules.f
  try simp only [spec_LessRules.j0_eq rec k]
  kernel_rfl
theorem spec_LessRules.call (k : Nat) : ∀ a0 a1 a2 H, callF PP orc (k + 1) spec_LessRules.id [.sl 1 a0, .int .i64 a1, .int .i64 a2] H = spec_LessRules.f (callF PP orc k) k a0 a1 a2 H := by
  intros a0 a1 a2 H
  rw [callF_at (fn := Go.Proofs.Try.f36) (c := spec_LessRules.body) Go.Proofs.Try.func36 (by kernel_rfl) (Nat.le_of_ble_eq_true (by kernel_rfl)), spec_LessRules.f_eq]
  kernel_rfl
noncomputable def slices_Clip___impl_Rule_impl_Rule_.body : Code := (Go.Proofs.Try.f60).body.getD .skip
def slices_Clip___impl_Rule_impl_Rule_.f (rec : Rec) (k : Nat) (a0 : Sl) (H : Hp) : An := if (0 ≤ (0 : Int) ∧ (0 : Int) ≤ (a0.len : Int) ∧ ((a0.len : Int) : Int) ≤ a0.len ∧ ((a0.len : Int) : Int) = (a0.len : Int)) ∧ 0 < 3 ∧ true = true then some (.sl 3 (Sl.mk a0.nil a0.blk (a0.off + (0 : Int).toNat * 3) (((a0.len : Int) : Int) - 0).toNat), H) else none
theorem slices_Clip___impl_Rule_impl_Rule_.f_eq (rec : Rec) (k : Nat) : ∀ a0 H, slices_Clip___impl_Rule_impl_Rule_.f rec k a0 H = ex PP (orc slices_Clip___impl_Rule_impl_Rule_.id) rec k slices_Clip___impl_Rule_impl_Rule_.body (St.of 9 [(0, .sl 3 a0)] []) H (K0 PP Go.Proofs.Try.f60) := by
  intros a0 H
  unfold slices_Clip___impl_Rule_impl_Rule_.f
  kernel_rfl
theorem slices_Clip___impl_Rule_impl_Rule_.call (k : Nat) : ∀ a0 H, callF PP orc (k + 1) slices_Clip___impl_Rule_impl_Rule_.id [.sl 3 a0] H = slices_Clip___impl_Rule_impl_Rule_.f (callF PP orc k) k a0 H := by
  intros a0 H
  rw [callF_at (fn := Go.Proofs.Try.f60) (c := slices_Clip___impl_Rule_impl_Rule_.body) Go.Proofs.Try.func60 (by kernel_rfl) (Nat.le_of_ble_eq_true (by kernel_rfl)), slices_Clip___impl_Rule_impl_Rule_.f_eq]
  kernel_rfl
noncomputable def laws_FnExactApartRules.body : Code := (Go.Proofs.Try.f7).body.getD .skip
def laws_FnExactApartRules.j1 (rec : Rec) (k : Nat) (x0 : Sl) (x1 : Int) (x2 : Int) (x7 : Sl) (x9 : Sl) (H : Hp) : An := (rec laws_markRuleS.id [.sl 3 x9, .int .i64 1] H).bind fun r19 => (r19.1.toI .i64).bind fun n20 => (rec laws_heldRuleS.id [.sl 3 x9, .int .i64 1] r19.2).bind fun r21 => (r21.1.toI .i64).bind fun n22 => bif decide (n22 < 0) then some (.bool false, r21.2) else bif n22 != n20 then some (.bool false, r21.2) else (rec laws_toIntS.id [.sl 1 x0] r21.2).bind fun r23 => (r23.1.toS 1).bind fun s24 => (rec impl_ApartRules.id [.sl 1 s24, .int .i64 x1, .int .i64 x2] r23.2).bind fun r25 => (r25.1.toS 3).bind fun s26 => (rec laws_eqRuleS.id [.sl 3 s26, .sl 3 x7] r25.2).bind fun r27 => r27.1.toB.bind fun b28 => bif !b28 then some (.bool false, r27.2) else (rec laws_heldRuleS.id [.sl 3 x9, .int .i64 1] r27.2).bind fun r29 => (r29.1.toI .i64).bind fun n30 => bif decide (n30 < 0) then some (.bool false, r29.2) else bif n30 != n20 then some (.bool false, r29.2) else some (.bool true, r29.2)
def laws_FnExactApartRules.j0 (rec : Rec) (k : Nat) (x0 : Sl) (x1 : Int) (x2 : Int) (x7 : Sl) (x9 : Sl) (x47 : Bool) (H : Hp) : An := bif x47 then some (.bool false, H) else laws_FnExactApartRules.j1 rec k x0 x1 x2 x7 x9 H
def laws_FnExactApartRules.f (rec : Rec) (k : Nat) (a0 : Sl) (a1 : Int) (a2 : Int) (H : Hp) : An := bif decide ((a0.len : Int) > 1048576) then some (.bool true, H) else (rec laws_toIntS.id [.sl 1 a0] H).bind fun r1 => (r1.1.toS 1).bind fun s2 => (rec spec_ApartRules.id [.sl 1 s2, .int .i64 a1, .int .i64 a2] r1.2).bind fun r3 => (r3.1.toS 3).bind fun s4 => (rec laws_toIntS.id [.sl 1 a0] r3.2).bind fun r5 => (r5.1.toS 1).bind fun s6 => (rec impl_ApartRules.id [.sl 1 s6, .int .i64 a1, .int .i64 a2] r5.2).bind fun r7 => (r7.1.toS 3).bind fun s8 => (rec laws_eqRuleS.id [.sl 3 s8, .sl 3 s4] r7.2).bind fun r9 => r9.1.toB.bind fun b10 => bif !b10 then some (.bool false, r9.2) else (rec laws_toIntS.id [.sl 1 a0] r9.2).bind fun r11 => (r11.1.toS 1).bind fun s12 => (rec laws_eqIntS.id [.sl 1 s6, .sl 1 s12] r11.2).bind fun r13 => r13.1.toB.bind fun b14 => bif !b14 then some (.bool false, r13.2) else (rec laws_markIntS.id [.sl 1 s6, .int .i64 1] r13.2).bind fun r15 => (r15.1.toI .i64).bind fun n16 => bif decide (n16 < 0) then laws_FnExactApartRules.j0 rec k a0 a1 a2 s4 s8 true r15.2 else (rec laws_eqRuleS.id [.sl 3 s8, .sl 3 s4] r15.2).bind fun r17 => r17.1.toB.bind fun b18 => laws_FnExactApartRules.j0 rec k a0 a1 a2 s4 s8 (!b18) r17.2
theorem laws_FnExactApartRules.j1_eq (rec : Rec) (k : Nat) : ∀ x0 x1 x2 x7 x9 H, laws_FnExactApartRules.j1 rec k x0 x1 x2 x7 x9 H = ex PP (orc laws_FnExactApartRules.id) rec k (sub laws_FnExactApartRules.body [1, 1, 1, 1, 1, 1, 1, 1, 1, 1]) (St.of 76 [(0, .sl 1 x0), (1, .int .i64 x1), (2, .int .i64 x2), (7, .sl 3 x7), (9, .sl 3 x9)] []) H (kAt PP (orc laws_FnExactApartRules.id) rec k laws_FnExactApartRules.body [1, 1, 1, 1, 1, 1, 1, 1, 1, 1] [] (K0 PP Go.Proofs.Try.f7)) := by
  intros x0 x1 x2 x7 x9 H
  unfold laws_FnExactApartRules.j1
  kernel_rfl
theorem laws_FnExactApartRules.j0_eq (rec : Rec) (k : Nat) : ∀ x0 x1 x2 x7 x9 x47 H, laws_FnExactApartRules.j0 rec k x0 x1 x2 x7 x9 x47 H = ex PP (orc laws_FnExactApartRules.id) rec k (sub laws_FnExactApartRules.body [1, 1, 1, 1, 1, 1, 1, 1, 1, 0, 1]) (St.of 76 [(0, .sl 1 x0), (1, .int .i64 x1), (2, .int .i64 x2), (7, .sl 3 x7), (9, .sl 3 x9), (47, .bool x47)] []) H (kAt PP (orc laws_FnExactApartRules.id) rec k laws_FnExactApartRules.body [1, 1, 1, 1, 1, 1, 1, 1, 1, 0, 1] [] (K0 PP Go.Proofs.Try.f7)) := by
  intros x0 x1 x2 x7 x9 x47 H
  unfold laws_FnExactApartRules.j0
  try simp only [laws_FnExactApartRules.j1_eq rec k]
  kernel_rfl
theorem laws_FnExactApartRules.f_eq (rec : Rec) (k : Nat) : ∀ a0 a1 a2 H, laws_FnExactApartRules.f rec k a0 a1 a2 H = ex PP (orc laws_FnExactApartRules.id) rec k laws_FnExactApartRules.body (St.of 76 [(0, .sl 1 a0), (1, .int .i64 a1), (2, .int .i64 a2)] []) H (K0 PP Go.Proofs.Try.f7) := by
  intros a0 a1 a2 H
  unfold laws_FnExactApartRules.f
  try simp only [laws_FnExactApartRules.j0_eq rec k]
  kernel_rfl
theorem laws_FnExactApartRules.call (k : Nat) : ∀ a0 a1 a2 H, callF PP orc (k + 1) laws_FnExactApartRules.id [.sl 1 a0, .int .i64 a1, .int .i64 a2] H = laws_FnExactApartRules.f (callF PP orc k) k a0 a1 a2 H := by
  intros a0 a1 a2 H
  rw [callF_at (fn := Go.Proofs.Try.f7) (c := laws_FnExactApartRules.body) Go.Proofs.Try.func7 (by kernel_rfl) (Nat.le_of_ble_eq_true (by kernel_rfl)), laws_FnExactApartRules.f_eq]
  kernel_rfl
noncomputable def laws_FnExactLessRules.body : Code := (Go.Proofs.Try.f8).body.getD .skip
def laws_FnExactLessRules.j1 (rec : Rec) (k : Nat) (x0 : Sl) (x1 : Int) (x2 : Int) (x7 : Sl) (x9 : Sl) (H : Hp) : An := (rec laws_markRuleS.id [.sl 3 x9, .int .i64 1] H).bind fun r19 => (r19.1.toI .i64).bind fun n20 => (rec laws_heldRuleS.id [.sl 3 x9, .int .i64 1] r19.2).bind fun r21 => (r21.1.toI .i64).bind fun n22 => bif decide (n22 < 0) then some (.bool false, r21.2) else bif n22 != n20 then some (.bool false, r21.2) else (rec laws_toIntS.id [.sl 1 x0] r21.2).bind fun r23 => (r23.1.toS 1).bind fun s24 => (rec impl_LessRules.id [.sl 1 s24, .int .i64 x1, .int .i64 x2] r23.2).bind fun r25 => (r25.1.toS 3).bind fun s26 => (rec laws_eqRuleS.id [.sl 3 s26, .sl 3 x7] r25.2).bind fun r27 => r27.1.toB.bind fun b28 => bif !b28 then some (.bool false, r27.2) else (rec laws_heldRuleS.id [.sl 3 x9, .int .i64 1] r27.2).bind fun r29 => (r29.1.toI .i64).bind fun n30 => bif decide (n30 < 0) then some (.bool false, r29.2) else bif n30 != n20 then some (.bool false, r29.2) else some (.bool true, r29.2)
def laws_FnExactLessRules.j0 (rec : Rec) (k : Nat) (x0 : Sl) (x1 : Int) (x2 : Int) (x7 : Sl) (x9 : Sl) (x47 : Bool) (H : Hp) : An := bif x47 then some (.bool false, H) else laws_FnExactLessRules.j1 rec k x0 x1 x2 x7 x9 H
def laws_FnExactLessRules.f (rec : Rec) (k : Nat) (a0 : Sl) (a1 : Int) (a2 : Int) (H : Hp) : An := bif decide ((a0.len : Int) > 1048576) then some (.bool true, H) else (rec laws_toIntS.id [.sl 1 a0] H).bind fun r1 => (r1.1.toS 1).bind fun s2 => (rec spec_LessRules.id [.sl 1 s2, .int .i64 a1, .int .i64 a2] r1.2).bind fun r3 => (r3.1.toS 3).bind fun s4 => (rec laws_toIntS.id [.sl 1 a0] r3.2).bind fun r5 => (r5.1.toS 1).bind fun s6 => (rec impl_LessRules.id [.sl 1 s6, .int .i64 a1, .int .i64 a2] r5.2).bind fun r7 => (r7.1.toS 3).bind fun s8 => (rec laws_eqRuleS.id [.sl 3 s8, .sl 3 s4] r7.2).bind fun r9 => r9.1.toB.bind fun b10 => bif !b10 then some (.bool false, r9.2) else (rec laws_toIntS.id [.sl 1 a0] r9.2).bind fun r11 => (r11.1.toS 1).bind fun s12 => (rec laws_eqIntS.id [.sl 1 s6, .sl 1 s12] r11.2).bind fun r13 => r13.1.toB.bind fun b14 => bif !b14 then some (.bool false, r13.2) else (rec laws_markIntS.id [.sl 1 s6, .int .i64 1] r13.2).bind fun r15 => (r15.1.toI .i64).bind fun n16 => bif decide (n16 < 0) then laws_FnExactLessRules.j0 rec k a0 a1 a2 s4 s8 true r15.2 else (rec laws_eqRuleS.id [.sl 3 s8, .sl 3 s4] r15.2).bind fun r17 => r17.1.toB.bind fun b18 => laws_FnExactLessRules.j0 rec k a0 a1 a2 s4 s8 (!b18) r17.2
theorem laws_FnExactLessRules.j1_eq (rec : Rec) (k : Nat) : ∀ x0 x1 x2 x7 x9 H, laws_FnExactLessRules.j1 rec k x0 x1 x2 x7 x9 H = ex PP (orc laws_FnExactLessRules.id) rec k (sub laws_FnExactLessRules.body [1, 1, 1, 1, 1, 1, 1, 1, 1, 1]) (St.of 76 [(0, .sl 1 x0), (1, .int .i64 x1), (2, .int .i64 x2), (7, .sl 3 x7), (9, .sl 3 x9)] []) H (kAt PP (orc laws_FnExactLessRules.id) rec k laws_FnExactLessRules.body [1, 1, 1, 1, 1, 1, 1, 1, 1, 1] [] (K0 PP Go.Proofs.Try.f8)) := by
  intros x0 x1 x2 x7 x9 H
  unfold laws_FnExactLessRules.j1
  kernel_rfl
theorem laws_FnExactLessRules.j0_eq (rec : Rec) (k : Nat) : ∀ x0 x1 x2 x7 x9 x47 H, laws_FnExactLessRules.j0 rec k x0 x1 x2 x7 x9 x47 H = ex PP (orc laws_FnExactLessRules.id) rec k (sub laws_FnExactLessRules.body [1, 1, 1, 1, 1, 1, 1, 1, 1, 0, 1]) (St.of 76 [(0, .sl 1 x0), (1, .int .i64 x1), (2, .int .i64 x2), (7, .sl 3 x7), (9, .sl 3 x9), (47, .bool x47)] []) H (kAt PP (orc laws_FnExactLessRules.id) rec k laws_FnExactLessRules.body [1, 1, 1, 1, 1, 1, 1, 1, 1, 0, 1] [] (K0 PP Go.Proofs.Try.f8)) := by
  intros x0 x1 x2 x7 x9 x47 H
  unfold laws_FnExactLessRules.j0
  try simp only [laws_FnExactLessRules.j1_eq rec k]
  kernel_rfl
theorem laws_FnExactLessRules.f_eq (rec : Rec) (k : Nat) : ∀ a0 a1 a2 H, laws_FnExactLessRules.f rec k a0 a1 a2 H = ex PP (orc laws_FnExactLessRules.id) rec k laws_FnExactLessRules.body (St.of 76 [(0, .sl 1 a0), (1, .int .i64 a1), (2, .int .i64 a2)] []) H (K0 PP Go.Proofs.Try.f8) := by
  intros a0 a1 a2 H
  unfold laws_FnExactLessRules.f
  try simp only [laws_FnExactLessRules.j0_eq rec k]
  kernel_rfl
theorem laws_FnExactLessRules.call (k : Nat) : ∀ a0 a1 a2 H, callF PP orc (k + 1) laws_FnExactLessRules.id [.sl 1 a0, .int .i64 a1, .int .i64 a2] H = laws_FnExactLessRules.f (callF PP orc k) k a0 a1 a2 H := by
  intros a0 a1 a2 H
  rw [callF_at (fn := Go.Proofs.Try.f8) (c := laws_FnExactLessRules.body) Go.Proofs.Try.func8 (by kernel_rfl) (Nat.le_of_ble_eq_true (by kernel_rfl)), laws_FnExactLessRules.f_eq]
  kernel_rfl
end Go.Proofs.Ytncmneliinbjdaa.Rp
