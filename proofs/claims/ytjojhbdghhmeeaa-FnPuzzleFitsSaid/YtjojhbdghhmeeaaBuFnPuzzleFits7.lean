/- Texts for the row of the law FnPuzzleFits, part 7: the plain machine, the program's functions on it, what they come to. No conditions. -/
import Derived.Test.YtjojhbdghhmeeaaAb
import Derived.Test.YtjojhbdghhmeeaaOr
/- Functions of the program as plain Lean functions. No conditions. -/
set_option linter.unusedVariables false
set_option linter.unusedSimpArgs false
set_option maxRecDepth 100000
namespace Go.Proofs.Ytjojhbdghhmeeaa.Rp
open Go Go.Proofs.Ytjojhbdghhmeeaa.Ab
noncomputable def laws_FnPuzzleFits.body : Code := (Go.Proofs.Try.f13).body.getD .skip
noncomputable def laws_FnPuzzleFits.j1 (rec : Rec) (k : Nat) (x4 : Sl) (y3_0 : Int) (y3_1 : Sl) (y3_2 : Sl) (H : Hp) : An := (H.read 1 x4).bind fun c13 => (H.appl 1 [] 0 x4.len c13).bind fun w12 => bif true && c13.all AV.cell then bif decide (0 ≤ (IntKind.i64.wrap (((w12.1.len : Int) : Int).tdiv 2) : Int)) && decide ((IntKind.i64.wrap (((w12.1.len : Int) : Int).tdiv 2) : Int) < w12.1.len) then (w12.2.sto w12.1.blk (w12.1.off + (IntKind.i64.wrap (((w12.1.len : Int) : Int).tdiv 2) : Int).toNat * 1) [.int .i64 0]).bind fun H14 => (rec impl_PuzzleFits.id [.agg [.int .i64 y3_0, .sl 1 y3_1, .sl 3 y3_2], .sl 1 w12.1] H14).bind fun r15 => r15.1.toB.bind fun b16 => bif b16 then (rec impl_PuzzleFits.id [.agg [.int .i64 y3_0, .sl 1 y3_1, .sl 3 Sl.none], .sl 1 x4] r15.2).bind fun r17 => r17.1.toB.bind fun b18 => bif b18 then (rec impl_SquareFits.id [.sl 1 x4, .int .i64 y3_0] r17.2).bind fun r19 => r19.1.toB.bind fun b20 => some (.bool b20, r19.2) else some (.bool false, r17.2) else some (.bool false, r15.2) else none else none
noncomputable def laws_FnPuzzleFits.j0 (rec : Rec) (k : Nat) (x4 : Sl) (x29 : Bool) (y3_0 : Int) (y3_1 : Sl) (y3_2 : Sl) (H : Hp) : An := bif x29 then (rec laws_alive.id [] H).bind fun r10 => r10.1.toB.bind fun b11 => some (.bool b11, r10.2) else laws_FnPuzzleFits.j1 rec k x4 y3_0 y3_1 y3_2 H
noncomputable def laws_FnPuzzleFits.f (rec : Rec) (k : Nat) (a0 : Sl) (H : Hp) : An := bif decide ((a0.len : Int) > 1048576) then some (.bool true, H) else (rec spec_DrawPuzzleFits.id [.sl 1 a0] H).bind fun r1 => bif r1.1.isTup 2 then bif (r1.1.nth 0).isAgg 3 then (((r1.1.nth 0).cel 0).toI .i64).bind fun n2 => (((r1.1.nth 0).cel 1).toS 1).bind fun s3 => (((r1.1.nth 0).cel 2).toS 3).bind fun s4 => ((r1.1.nth 1).toS 1).bind fun s5 => (rec impl_PuzzleFits.id [.agg [.int .i64 n2, .sl 1 s3, .sl 3 s4], .sl 1 s5] r1.2).bind fun r6 => r6.1.toB.bind fun b7 => (rec spec_PuzzleFits.id [.agg [.int .i64 n2, .sl 1 s3, .sl 3 s4], .sl 1 s5] r6.2).bind fun r8 => r8.1.toB.bind fun b9 => bif !(b7 == b9) then some (.bool false, r8.2) else bif !b7 then laws_FnPuzzleFits.j0 rec k s5 true n2 s3 s4 r8.2 else laws_FnPuzzleFits.j0 rec k s5 ((s5.len : Int) == 0) n2 s3 s4 r8.2 else none else none
theorem laws_FnPuzzleFits.j1_eq (rec : Rec) (k : Nat) : ∀ x4 y3_0 y3_1 y3_2 H, laws_FnPuzzleFits.j1 rec k x4 y3_0 y3_1 y3_2 H = ex PP (orc laws_FnPuzzleFits.id) rec k (sub laws_FnPuzzleFits.body [1, 1, 1, 1, 1, 1]) (St.of 57 [(3, .lp 3 0), (4, .sl 1 x4)] [(3, [.int .i64 y3_0, .sl 1 y3_1, .sl 3 y3_2])]) H (kAt PP (orc laws_FnPuzzleFits.id) rec k laws_FnPuzzleFits.body [1, 1, 1, 1, 1, 1] [] (K0 PP Go.Proofs.Try.f13)) := by
  intros x4 y3_0 y3_1 y3_2 H
  unfold laws_FnPuzzleFits.j1
  kernel_rfl
theorem laws_FnPuzzleFits.j0_eq (rec : Rec) (k : Nat) : ∀ x4 x29 y3_0 y3_1 y3_2 H, laws_FnPuzzleFits.j0 rec k x4 x29 y3_0 y3_1 y3_2 H = ex PP (orc laws_FnPuzzleFits.id) rec k (sub laws_FnPuzzleFits.body [1, 1, 1, 1, 1, 0, 1]) (St.of 57 [(3, .lp 3 0), (4, .sl 1 x4), (29, .bool x29)] [(3, [.int .i64 y3_0, .sl 1 y3_1, .sl 3 y3_2])]) H (kAt PP (orc laws_FnPuzzleFits.id) rec k laws_FnPuzzleFits.body [1, 1, 1, 1, 1, 0, 1] [] (K0 PP Go.Proofs.Try.f13)) := by
  intros x4 x29 y3_0 y3_1 y3_2 H
  unfold laws_FnPuzzleFits.j0
  try simp only [laws_FnPuzzleFits.j1_eq rec k, -eq_self]
  kernel_rfl
theorem laws_FnPuzzleFits.f_eq (rec : Rec) (k : Nat) : ∀ a0 H, laws_FnPuzzleFits.f rec k a0 H = ex PP (orc laws_FnPuzzleFits.id) rec k laws_FnPuzzleFits.body (St.of 57 [(0, .sl 1 a0)] []) H (K0 PP Go.Proofs.Try.f13) := by
  intros a0 H
  unfold laws_FnPuzzleFits.f
  try simp only [laws_FnPuzzleFits.j0_eq rec k, -eq_self]
  kernel_rfl
theorem laws_FnPuzzleFits.call (k : Nat) : ∀ a0 H, callF PP orc (k + 1) laws_FnPuzzleFits.id [.sl 1 a0] H = laws_FnPuzzleFits.f (callF PP orc k) k a0 H := by
  intros a0 H
  rw [callF_at (fn := Go.Proofs.Try.f13) (c := laws_FnPuzzleFits.body) Go.Proofs.Try.func13 (by kernel_rfl) (Nat.le_of_ble_eq_true (by kernel_rfl)), laws_FnPuzzleFits.f_eq]
  kernel_rfl
noncomputable def spec_DrawPuzzleFits.body : Code := (Go.Proofs.Try.f58).body.getD .skip
noncomputable def spec_DrawPuzzleFits.f (rec : Rec) (k : Nat) (a0 : Sl) (H : Hp) : An := (rec spec_l20Open.id [.sl 1 a0] H).bind fun r1 => r1.1.toP.bind fun p2 => (rec spec_l20Try.id [.ptr p2.1 p2.2, .int .i64 12] r1.2).bind fun r3 => bif r3.1.isTup 2 then bif (r3.1.nth 0).isAgg 3 then (((r3.1.nth 0).cel 0).toI .i64).bind fun n4 => (((r3.1.nth 0).cel 1).toS 1).bind fun s5 => (((r3.1.nth 0).cel 2).toS 3).bind fun s6 => ((r3.1.nth 1).toS 1).bind fun s7 => some (.tup [.agg [.int .i64 n4, .sl 1 s5, .sl 3 s6], .sl 1 s7], r3.2) else none else none
theorem spec_DrawPuzzleFits.f_eq (rec : Rec) (k : Nat) : ∀ a0 H, spec_DrawPuzzleFits.f rec k a0 H = ex PP (orc spec_DrawPuzzleFits.id) rec k spec_DrawPuzzleFits.body (St.of 9 [(0, .sl 1 a0)] []) H (K0 PP Go.Proofs.Try.f58) := by
  intros a0 H
  unfold spec_DrawPuzzleFits.f
  kernel_rfl
theorem spec_DrawPuzzleFits.call (k : Nat) : ∀ a0 H, callF PP orc (k + 1) spec_DrawPuzzleFits.id [.sl 1 a0] H = spec_DrawPuzzleFits.f (callF PP orc k) k a0 H := by
  intros a0 H
  rw [callF_at (fn := Go.Proofs.Try.f58) (c := spec_DrawPuzzleFits.body) Go.Proofs.Try.func58 (by kernel_rfl) (Nat.le_of_ble_eq_true (by kernel_rfl)), spec_DrawPuzzleFits.f_eq]
  kernel_rfl
end Go.Proofs.Ytjojhbdghhmeeaa.Rp
