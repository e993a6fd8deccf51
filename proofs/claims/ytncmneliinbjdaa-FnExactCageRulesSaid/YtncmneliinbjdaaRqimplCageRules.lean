/- A function of the program as a plain Lean function. No conditions. -/
import Derived.Test.YtncmneliinbjdaaAb
import Derived.Test.YtncmneliinbjdaaOr
set_option linter.unusedVariables false
set_option linter.unusedSimpArgs false
set_option maxRecDepth 100000
namespace Go.Proofs.Ytncmneliinbjdaa.Rp
open Go Go.Proofs.Ytncmneliinbjdaa.Ab
noncomputable def impl_CageRules.body : Code := (Go.Proofs.Try.f39).body.getD .skip
def impl_CageRules.j4 (rec : Rec) (k : Nat) (x10 : Sl) (H : Hp) : An := some (.tup [.sl 3 x10, .bool true], H)
def impl_CageRules.j6 (rec : Rec) (k : Nat) (L2 : Sl → Int → Sl → Bool → Sl → Int → Int → Hp → An) (L5 : Sl → Int → Sl → Bool → Sl → Int → Int → Sl → Int → Int → Int → Sl → Int → Hp → An) (x0 : Sl) (x1 : Int) (x2 : Sl) (x3 : Bool) (x10 : Sl) (x26 : Int) (x27 : Int) (x43 : Sl) (x44 : Int) (x45 : Int) (y12_0 : Int) (y12_1 : Sl) (y12_2 : Int) (H : Hp) : An := L5 x0 x1 x2 x3 x10 x26 x27 x43 x44 (IntKind.i64.wrap (x45 + 1)) y12_0 y12_1 y12_2 H
def impl_CageRules.j8 (rec : Rec) (k : Nat) (L2 : Sl → Int → Sl → Bool → Sl → Int → Int → Hp → An) (x0 : Sl) (x1 : Int) (x2 : Sl) (x3 : Bool) (x10 : Sl) (x26 : Int) (x27 : Int) (H : Hp) : An := L2 x0 x1 x2 x3 x10 x26 (IntKind.i64.wrap (x27 + 1)) H
def impl_CageRules.j7 (rec : Rec) (k : Nat) (L2 : Sl → Int → Sl → Bool → Sl → Int → Int → Hp → An) (x0 : Sl) (x1 : Int) (x2 : Sl) (x3 : Bool) (x10 : Sl) (x26 : Int) (x27 : Int) (y12_0 : Int) (y12_1 : Sl) (y12_2 : Int) (H : Hp) : An := bif decide ((y12_1.len : Int) > 0) then (H.app 3 x10 1 [.int .i64 y12_0, .sl 1 y12_1, .int .i64 y12_2]).bind fun a10 => impl_CageRules.j8 rec k L2 x0 x1 x2 x3 a10.1 x26 x27 a10.2 else impl_CageRules.j8 rec k L2 x0 x1 x2 x3 x10 x26 x27 H
def impl_CageRules.l5 (rec : Rec) (k : Nat) (L2 : Sl → Int → Sl → Bool → Sl → Int → Int → Hp → An) : Nat → Sl → Int → Sl → Bool → Sl → Int → Int → Sl → Int → Int → Int → Sl → Int → Hp → An
  | 0, _, _, _, _, _, _, _, _, _, _, _, _, _, _ => none
  | n + 1, x0, x1, x2, x3, x10, x26, x27, x43, x44, x45, y12_0, y12_1, y12_2, H => bif decide (x45 < x44) then bif decide (0 ≤ (x45 : Int)) && decide ((x45 : Int) < x43.len) then (ldI .i64 H x43.blk (x43.off + (x45 : Int).toNat * 1)).bind fun n7 => bif x3 then bif decide (0 ≤ (n7 : Int)) && decide ((n7 : Int) < x0.len) then (ldI .i64 H x0.blk (x0.off + (n7 : Int).toNat * 1)).bind fun n8 => impl_CageRules.j6 rec k L2 (impl_CageRules.l5 rec k L2 n) x0 x1 x2 x3 x10 x26 x27 x43 x44 x45 y12_0 y12_1 (IntKind.i64.wrap (y12_2 * n8)) H else none else bif decide (0 ≤ (n7 : Int)) && decide ((n7 : Int) < x0.len) then (ldI .i64 H x0.blk (x0.off + (n7 : Int).toNat * 1)).bind fun n9 => impl_CageRules.j6 rec k L2 (impl_CageRules.l5 rec k L2 n) x0 x1 x2 x3 x10 x26 x27 x43 x44 x45 y12_0 y12_1 (IntKind.i64.wrap (y12_2 + n9)) H else none else none else impl_CageRules.j7 rec k L2 x0 x1 x2 x3 x10 x26 x27 y12_0 y12_1 y12_2 H
def impl_CageRules.j3 (rec : Rec) (k : Nat) (L2 : Sl → Int → Sl → Bool → Sl → Int → Int → Hp → An) (x0 : Sl) (x1 : Int) (x2 : Sl) (x3 : Bool) (x10 : Sl) (x26 : Int) (x27 : Int) (y12_0 : Int) (y12_1 : Sl) (y12_2 : Int) (H : Hp) : An := bif decide ((y12_1.len : Int) > 4) then some (.tup [.sl 3 Sl.none, .bool false], H) else impl_CageRules.l5 rec k L2 k x0 x1 x2 x3 x10 x26 x27 y12_1 (y12_1.len : Int) 0 y12_0 y12_1 y12_2 H
def impl_CageRules.l2 (rec : Rec) (k : Nat) : Nat → Sl → Int → Sl → Bool → Sl → Int → Int → Hp → An
  | 0, _, _, _, _, _, _, _, _ => none
  | n + 1, x0, x1, x2, x3, x10, x26, x27, H => bif decide (x27 < x26) then (rec impl_RegionCells.id [.sl 1 x2, .int .i64 x1, .int .i64 x27] H).bind fun r5 => (r5.1.toS 1).bind fun s6 => bif x3 then impl_CageRules.j3 rec k (impl_CageRules.l2 rec k n) x0 x1 x2 x3 x10 x26 x27 3 s6 1 r5.2 else impl_CageRules.j3 rec k (impl_CageRules.l2 rec k n) x0 x1 x2 x3 x10 x26 x27 2 s6 0 r5.2 else impl_CageRules.j4 rec k x10 H
def impl_CageRules.j1 (rec : Rec) (k : Nat) (x0 : Sl) (x1 : Int) (x2 : Sl) (x3 : Bool) (H : Hp) : An := impl_CageRules.l2 rec k k x0 x1 x2 x3 (Sl.mk false H.length 0 0) x1 0 (H ++ [some (Blk.mk false [])])
def impl_CageRules.j0 (rec : Rec) (k : Nat) (x0 : Sl) (x1 : Int) (x2 : Sl) (x3 : Bool) (x24 : Bool) (H : Hp) : An := bif x24 then some (.tup [.sl 3 Sl.none, .bool false], H) else impl_CageRules.j1 rec k x0 x1 x2 x3 H
def impl_CageRules.f (rec : Rec) (k : Nat) (a0 : Sl) (a1 : Int) (a2 : Sl) (a3 : Bool) (H : Hp) : An := (rec impl_SquareSolved.id [.sl 1 a0, .int .i64 a1] H).bind fun r1 => r1.1.toB.bind fun b2 => bif !b2 then impl_CageRules.j0 rec k a0 a1 a2 a3 true r1.2 else (rec impl_RegionsValid.id [.sl 1 a2, .int .i64 a1] r1.2).bind fun r3 => r3.1.toB.bind fun b4 => impl_CageRules.j0 rec k a0 a1 a2 a3 (!b4) r3.2
theorem impl_CageRules.j4_eq (rec : Rec) (k : Nat) : ∀ x10 H, impl_CageRules.j4 rec k x10 H = ex PP (orc impl_CageRules.id) rec k (sub impl_CageRules.body [1, 1, 1, 1]) (St.of 77 [(10, .sl 3 x10)] []) H (kAt PP (orc impl_CageRules.id) rec k impl_CageRules.body [1, 1, 1, 1] [] (K0 PP Go.Proofs.Try.f39)) := by
  intros x10 H
  unfold impl_CageRules.j4
  kernel_rfl
theorem impl_CageRules.j6_eq (rec : Rec) (k : Nat) (n2 : Nat) (L2 : Sl → Int → Sl → Bool → Sl → Int → Int → Hp → An) (hL2 : ∀ x0 x1 x2 x3 x10 x26 x27 H, L2 x0 x1 x2 x3 x10 x26 x27 H = iter ((orc impl_CageRules.id).at (lbody (sub impl_CageRules.body [1, 1, 1, 0, 1, 0]))) (ex PP (orc impl_CageRules.id) rec k (lbody (sub impl_CageRules.body [1, 1, 1, 0, 1, 0]))) (kAt PP (orc impl_CageRules.id) rec k impl_CageRules.body [1, 1, 1, 0, 1, 0] [] (K0 PP Go.Proofs.Try.f39)) n2 (St.of 77 [(0, .sl 1 x0), (1, .int .i64 x1), (2, .sl 1 x2), (3, .bool x3), (10, .sl 3 x10), (26, .int .i64 x26), (27, .int .i64 x27)] []) H) (n5 : Nat) (L5 : Sl → Int → Sl → Bool → Sl → Int → Int → Sl → Int → Int → Int → Sl → Int → Hp → An) (hL5 : ∀ x0 x1 x2 x3 x10 x26 x27 x43 x44 x45 y12_0 y12_1 y12_2 H, L5 x0 x1 x2 x3 x10 x26 x27 x43 x44 x45 y12_0 y12_1 y12_2 H = iter ((orc impl_CageRules.id).at (lbody (sub impl_CageRules.body [1, 1, 1, 0, 1, 0, 0, 1, 1, 0, 0, 1, 1, 1, 1, 0, 1, 0]))) (ex PP (orc impl_CageRules.id) rec k (lbody (sub impl_CageRules.body [1, 1, 1, 0, 1, 0, 0, 1, 1, 0, 0, 1, 1, 1, 1, 0, 1, 0]))) (kAt PP (orc impl_CageRules.id) rec k impl_CageRules.body [1, 1, 1, 0, 1, 0, 0, 1, 1, 0, 0, 1, 1, 1, 1, 0, 1, 0] [n2] (K0 PP Go.Proofs.Try.f39)) n5 (St.of 77 [(0, .sl 1 x0), (1, .int .i64 x1), (2, .sl 1 x2), (3, .bool x3), (10, .sl 3 x10), (12, .lp 12 0), (26, .int .i64 x26), (27, .int .i64 x27), (43, .sl 1 x43), (44, .int .i64 x44), (45, .int .i64 x45)] [(12, [.int .i64 y12_0, .sl 1 y12_1, .int .i64 y12_2])]) H) : ∀ x0 x1 x2 x3 x10 x26 x27 x43 x44 x45 y12_0 y12_1 y12_2 H, impl_CageRules.j6 rec k L2 L5 x0 x1 x2 x3 x10 x26 x27 x43 x44 x45 y12_0 y12_1 y12_2 H = ex PP (orc impl_CageRules.id) rec k (sub impl_CageRules.body [1, 1, 1, 0, 1, 0, 0, 1, 1, 0, 0, 1, 1, 1, 1, 0, 1, 0, 0, 1, 1, 1]) (St.of 77 [(0, .sl 1 x0), (1, .int .i64 x1), (2, .sl 1 x2), (3, .bool x3), (10, .sl 3 x10), (12, .lp 12 0), (26, .int .i64 x26), (27, .int .i64 x27), (43, .sl 1 x43), (44, .int .i64 x44), (45, .int .i64 x45)] [(12, [.int .i64 y12_0, .sl 1 y12_1, .int .i64 y12_2])]) H (kAt PP (orc impl_CageRules.id) rec k impl_CageRules.body [1, 1, 1, 0, 1, 0, 0, 1, 1, 0, 0, 1, 1, 1, 1, 0, 1, 0, 0, 1, 1, 1] [n2, n5] (K0 PP Go.Proofs.Try.f39)) := by
  intros x0 x1 x2 x3 x10 x26 x27 x43 x44 x45 y12_0 y12_1 y12_2 H
  unfold impl_CageRules.j6
  try simp only [hL2, hL5]
  kernel_rfl
theorem impl_CageRules.j8_eq (rec : Rec) (k : Nat) (n2 : Nat) (L2 : Sl → Int → Sl → Bool → Sl → Int → Int → Hp → An) (hL2 : ∀ x0 x1 x2 x3 x10 x26 x27 H, L2 x0 x1 x2 x3 x10 x26 x27 H = iter ((orc impl_CageRules.id).at (lbody (sub impl_CageRules.body [1, 1, 1, 0, 1, 0]))) (ex PP (orc impl_CageRules.id) rec k (lbody (sub impl_CageRules.body [1, 1, 1, 0, 1, 0]))) (kAt PP (orc impl_CageRules.id) rec k impl_CageRules.body [1, 1, 1, 0, 1, 0] [] (K0 PP Go.Proofs.Try.f39)) n2 (St.of 77 [(0, .sl 1 x0), (1, .int .i64 x1), (2, .sl 1 x2), (3, .bool x3), (10, .sl 3 x10), (26, .int .i64 x26), (27, .int .i64 x27)] []) H) : ∀ x0 x1 x2 x3 x10 x26 x27 H, impl_CageRules.j8 rec k L2 x0 x1 x2 x3 x10 x26 x27 H = ex PP (orc impl_CageRules.id) rec k (sub impl_CageRules.body [1, 1, 1, 0, 1, 0, 0, 1, 1, 1]) (St.of 77 [(0, .sl 1 x0), (1, .int .i64 x1), (2, .sl 1 x2), (3, .bool x3), (10, .sl 3 x10), (26, .int .i64 x26), (27, .int .i64 x27)] []) H (kAt PP (orc impl_CageRules.id) rec k impl_CageRules.body [1, 1, 1, 0, 1, 0, 0, 1, 1, 1] [n2] (K0 PP Go.Proofs.Try.f39)) := by
  intros x0 x1 x2 x3 x10 x26 x27 H
  unfold impl_CageRules.j8
  try simp only [hL2]
  kernel_rfl
theorem impl_CageRules.j7_eq (rec : Rec) (k : Nat) (n2 : Nat) (L2 : Sl → Int → Sl → Bool → Sl → Int → Int → Hp → An) (hL2 : ∀ x0 x1 x2 x3 x10 x26 x27 H, L2 x0 x1 x2 x3 x10 x26 x27 H = iter ((orc impl_CageRules.id).at (lbody (sub impl_CageRules.body [1, 1, 1, 0, 1, 0]))) (ex PP (orc impl_CageRules.id) rec k (lbody (sub impl_CageRules.body [1, 1, 1, 0, 1, 0]))) (kAt PP (orc impl_CageRules.id) rec k impl_CageRules.body [1, 1, 1, 0, 1, 0] [] (K0 PP Go.Proofs.Try.f39)) n2 (St.of 77 [(0, .sl 1 x0), (1, .int .i64 x1), (2, .sl 1 x2), (3, .bool x3), (10, .sl 3 x10), (26, .int .i64 x26), (27, .int .i64 x27)] []) H) : ∀ x0 x1 x2 x3 x10 x26 x27 y12_0 y12_1 y12_2 H, impl_CageRules.j7 rec k L2 x0 x1 x2 x3 x10 x26 x27 y12_0 y12_1 y12_2 H = ex PP (orc impl_CageRules.id) rec k (sub impl_CageRules.body [1, 1, 1, 0, 1, 0, 0, 1, 1, 0, 0, 1, 1, 1, 1, 1]) (St.of 77 [(0, .sl 1 x0), (1, .int .i64 x1), (2, .sl 1 x2), (3, .bool x3), (10, .sl 3 x10), (12, .lp 12 0), (26, .int .i64 x26), (27, .int .i64 x27)] [(12, [.int .i64 y12_0, .sl 1 y12_1, .int .i64 y12_2])]) H (kAt PP (orc impl_CageRules.id) rec k impl_CageRules.body [1, 1, 1, 0, 1, 0, 0, 1, 1, 0, 0, 1, 1, 1, 1, 1] [n2] (K0 PP Go.Proofs.Try.f39)) := by
  intros x0 x1 x2 x3 x10 x26 x27 y12_0 y12_1 y12_2 H
  unfold impl_CageRules.j7
  try simp only [hL2, impl_CageRules.j8_eq rec k n2 L2 hL2]
  kernel_rfl
theorem impl_CageRules.l5_eq (rec : Rec) (k : Nat) (n2 : Nat) (L2 : Sl → Int → Sl → Bool → Sl → Int → Int → Hp → An) (hL2 : ∀ x0 x1 x2 x3 x10 x26 x27 H, L2 x0 x1 x2 x3 x10 x26 x27 H = iter ((orc impl_CageRules.id).at (lbody (sub impl_CageRules.body [1, 1, 1, 0, 1, 0]))) (ex PP (orc impl_CageRules.id) rec k (lbody (sub impl_CageRules.body [1, 1, 1, 0, 1, 0]))) (kAt PP (orc impl_CageRules.id) rec k impl_CageRules.body [1, 1, 1, 0, 1, 0] [] (K0 PP Go.Proofs.Try.f39)) n2 (St.of 77 [(0, .sl 1 x0), (1, .int .i64 x1), (2, .sl 1 x2), (3, .bool x3), (10, .sl 3 x10), (26, .int .i64 x26), (27, .int .i64 x27)] []) H) : ∀ n x0 x1 x2 x3 x10 x26 x27 x43 x44 x45 y12_0 y12_1 y12_2 H, impl_CageRules.l5 rec k L2 n x0 x1 x2 x3 x10 x26 x27 x43 x44 x45 y12_0 y12_1 y12_2 H = iter ((orc impl_CageRules.id).at (lbody (sub impl_CageRules.body [1, 1, 1, 0, 1, 0, 0, 1, 1, 0, 0, 1, 1, 1, 1, 0, 1, 0]))) (ex PP (orc impl_CageRules.id) rec k (lbody (sub impl_CageRules.body [1, 1, 1, 0, 1, 0, 0, 1, 1, 0, 0, 1, 1, 1, 1, 0, 1, 0]))) (kAt PP (orc impl_CageRules.id) rec k impl_CageRules.body [1, 1, 1, 0, 1, 0, 0, 1, 1, 0, 0, 1, 1, 1, 1, 0, 1, 0] [n2] (K0 PP Go.Proofs.Try.f39)) n (St.of 77 [(0, .sl 1 x0), (1, .int .i64 x1), (2, .sl 1 x2), (3, .bool x3), (10, .sl 3 x10), (12, .lp 12 0), (26, .int .i64 x26), (27, .int .i64 x27), (43, .sl 1 x43), (44, .int .i64 x44), (45, .int .i64 x45)] [(12, [.int .i64 y12_0, .sl 1 y12_1, .int .i64 y12_2])]) H := by
  intro n
  induction n with
  | zero => intros; rfl
  | succ n ih =>
    intros x0 x1 x2 x3 x10 x26 x27 x43 x44 x45 y12_0 y12_1 y12_2 H
    simp only [impl_CageRules.l5, hL2, impl_CageRules.j6_eq rec k n2 L2 hL2 n (impl_CageRules.l5 rec k L2 n) (fun x0 x1 x2 x3 x10 x26 x27 x43 x44 x45 y12_0 y12_1 y12_2 H => ih x0 x1 x2 x3 x10 x26 x27 x43 x44 x45 y12_0 y12_1 y12_2 H), impl_CageRules.j7_eq rec k n2 L2 hL2, ih]
    kernel_rfl
theorem impl_CageRules.j3_eq (rec : Rec) (k : Nat) (n2 : Nat) (L2 : Sl → Int → Sl → Bool → Sl → Int → Int → Hp → An) (hL2 : ∀ x0 x1 x2 x3 x10 x26 x27 H, L2 x0 x1 x2 x3 x10 x26 x27 H = iter ((orc impl_CageRules.id).at (lbody (sub impl_CageRules.body [1, 1, 1, 0, 1, 0]))) (ex PP (orc impl_CageRules.id) rec k (lbody (sub impl_CageRules.body [1, 1, 1, 0, 1, 0]))) (kAt PP (orc impl_CageRules.id) rec k impl_CageRules.body [1, 1, 1, 0, 1, 0] [] (K0 PP Go.Proofs.Try.f39)) n2 (St.of 77 [(0, .sl 1 x0), (1, .int .i64 x1), (2, .sl 1 x2), (3, .bool x3), (10, .sl 3 x10), (26, .int .i64 x26), (27, .int .i64 x27)] []) H) : ∀ x0 x1 x2 x3 x10 x26 x27 y12_0 y12_1 y12_2 H, impl_CageRules.j3 rec k L2 x0 x1 x2 x3 x10 x26 x27 y12_0 y12_1 y12_2 H = ex PP (orc impl_CageRules.id) rec k (sub impl_CageRules.body [1, 1, 1, 0, 1, 0, 0, 1, 1, 0, 0, 1, 1, 1]) (St.of 77 [(0, .sl 1 x0), (1, .int .i64 x1), (2, .sl 1 x2), (3, .bool x3), (10, .sl 3 x10), (12, .lp 12 0), (26, .int .i64 x26), (27, .int .i64 x27)] [(12, [.int .i64 y12_0, .sl 1 y12_1, .int .i64 y12_2])]) H (kAt PP (orc impl_CageRules.id) rec k impl_CageRules.body [1, 1, 1, 0, 1, 0, 0, 1, 1, 0, 0, 1, 1, 1] [n2] (K0 PP Go.Proofs.Try.f39)) := by
  intros x0 x1 x2 x3 x10 x26 x27 y12_0 y12_1 y12_2 H
  unfold impl_CageRules.j3
  try simp only [hL2, impl_CageRules.l5_eq rec k n2 L2 hL2]
  kernel_rfl
theorem impl_CageRules.l2_eq (rec : Rec) (k : Nat) : ∀ n x0 x1 x2 x3 x10 x26 x27 H, impl_CageRules.l2 rec k n x0 x1 x2 x3 x10 x26 x27 H = iter ((orc impl_CageRules.id).at (lbody (sub impl_CageRules.body [1, 1, 1, 0, 1, 0]))) (ex PP (orc impl_CageRules.id) rec k (lbody (sub impl_CageRules.body [1, 1, 1, 0, 1, 0]))) (kAt PP (orc impl_CageRules.id) rec k impl_CageRules.body [1, 1, 1, 0, 1, 0] [] (K0 PP Go.Proofs.Try.f39)) n (St.of 77 [(0, .sl 1 x0), (1, .int .i64 x1), (2, .sl 1 x2), (3, .bool x3), (10, .sl 3 x10), (26, .int .i64 x26), (27, .int .i64 x27)] []) H := by
  intro n
  induction n with
  | zero => intros; rfl
  | succ n ih =>
    intros x0 x1 x2 x3 x10 x26 x27 H
    simp only [impl_CageRules.l2, impl_CageRules.j3_eq rec k n (impl_CageRules.l2 rec k n) (fun x0 x1 x2 x3 x10 x26 x27 H => ih x0 x1 x2 x3 x10 x26 x27 H), impl_CageRules.j4_eq rec k, ih]
    cases x3 <;> kernel_rfl
theorem impl_CageRules.j1_eq (rec : Rec) (k : Nat) : ∀ x0 x1 x2 x3 H, impl_CageRules.j1 rec k x0 x1 x2 x3 H = ex PP (orc impl_CageRules.id) rec k (sub impl_CageRules.body [1, 1]) (St.of 77 [(0, .sl 1 x0), (1, .int .i64 x1), (2, .sl 1 x2), (3, .bool x3)] []) H (kAt PP (orc impl_CageRules.id) rec k impl_CageRules.body [1, 1] [] (K0 PP Go.Proofs.Try.f39)) := by
  intros x0 x1 x2 x3 H
  unfold impl_CageRules.j1
  try simp only [impl_CageRules.l2_eq rec k]
  kernel_rfl
theorem impl_CageRules.j0_eq (rec : Rec) (k : Nat) : ∀ x0 x1 x2 x3 x24 H, impl_CageRules.j0 rec k x0 x1 x2 x3 x24 H = ex PP (orc impl_CageRules.id) rec k (sub impl_CageRules.body [1, 0, 1]) (St.of 77 [(0, .sl 1 x0), (1, .int .i64 x1), (2, .sl 1 x2), (3, .bool x3), (24, .bool x24)] []) H (kAt PP (orc impl_CageRules.id) rec k impl_CageRules.body [1, 0, 1] [] (K0 PP Go.Proofs.Try.f39)) := by
  intros x0 x1 x2 x3 x24 H
  unfold impl_CageRules.j0
  try simp only [impl_CageRules.j1_eq rec k]
  kernel_rfl
theorem impl_CageRules.f_eq (rec : Rec) (k : Nat) : ∀ a0 a1 a2 a3 H, impl_CageRules.f rec k a0 a1 a2 a3 H = ex PP (orc impl_CageRules.id) rec k impl_CageRules.body (St.of 77 [(0, .sl 1 a0), (1, .int .i64 a1), (2, .sl 1 a2), (3, .bool a3)] []) H (K0 PP Go.Proofs.Try.f39) := by
  intros a0 a1 a2 a3 H
  unfold impl_CageRules.f
  try simp only [impl_CageRules.j0_eq rec k]
  kernel_rfl
theorem impl_CageRules.call (k : Nat) : ∀ a0 a1 a2 a3 H, callF PP orc (k + 1) impl_CageRules.id [.sl 1 a0, .int .i64 a1, .sl 1 a2, .bool a3] H = impl_CageRules.f (callF PP orc k) k a0 a1 a2 a3 H := by
  intros a0 a1 a2 a3 H
  rw [callF_at (fn := Go.Proofs.Try.f39) (c := impl_CageRules.body) Go.Proofs.Try.func39 (by kernel_rfl) (Nat.le_of_ble_eq_true (by kernel_rfl)), impl_CageRules.f_eq]
  kernel_rfl
end Go.Proofs.Ytncmneliinbjdaa.Rp
