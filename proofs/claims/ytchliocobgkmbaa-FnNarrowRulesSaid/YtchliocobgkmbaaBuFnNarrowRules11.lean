/- Texts for the row of the law FnNarrowRules, part 11: the plain machine, the program's functions on it, what they come to. No conditions. -/
import Derived.Test.YtchliocobgkmbaaAb
import Derived.Test.YtchliocobgkmbaaOr
set_option linter.unusedVariables false
set_option linter.unusedSimpArgs false
set_option maxRecDepth 100000
namespace Go.Proofs.Ytchliocobgkmbaa.Rp
open Go Go.Proofs.Ytchliocobgkmbaa.Ab
noncomputable def laws_FnNarrowRules.body : Code := (Go.Proofs.Try.f5).body.getD .skip
noncomputable def laws_FnNarrowRules.j1 (rec : Rec) (k : Nat) (x4 : Sl) (x5 : Sl) (y3_0 : Int) (y3_1 : Sl) (y3_2 : Sl) (H : Hp) : An := (rec impl_SolveFirst.id [.agg [.int .i64 y3_0, .sl 1 y3_1, .sl 3 y3_2]] H).bind fun r18 => bif r18.1.isTup 2 then ((r18.1.nth 0).toS 1).bind fun s19 => (r18.1.nth 1).toB.bind fun b20 => (rec laws_within.id [.sl 1 x5, .sl 1 x4] r18.2).bind fun r21 => r21.1.toB.bind fun b22 => bif b22 then bif !b20 then bif decide ((y3_2.len : Int) > 0) then some (.bool true, r21.2) else (rec laws_sameInts.id [.sl 1 x5, .sl 1 x4] r21.2).bind fun r23 => r23.1.toB.bind fun b24 => some (.bool b24, r23.2) else (rec impl_MasksHave.id [.sl 1 x4, .int .i64 y3_0, .sl 1 s19] r21.2).bind fun r25 => r25.1.toB.bind fun b26 => bif !b26 then bif decide ((y3_2.len : Int) > 0) then some (.bool true, r25.2) else (rec laws_sameInts.id [.sl 1 x5, .sl 1 x4] r25.2).bind fun r27 => r27.1.toB.bind fun b28 => some (.bool b28, r27.2) else (rec impl_MasksHave.id [.sl 1 x5, .int .i64 y3_0, .sl 1 s19] r25.2).bind fun r29 => r29.1.toB.bind fun b30 => bif b30 then bif decide ((y3_2.len : Int) > 0) then some (.bool true, r29.2) else (rec laws_sameInts.id [.sl 1 x5, .sl 1 x4] r29.2).bind fun r31 => r31.1.toB.bind fun b32 => some (.bool b32, r31.2) else some (.bool false, r29.2) else some (.bool false, r21.2) else none
noncomputable def laws_FnNarrowRules.j0 (rec : Rec) (k : Nat) (x4 : Sl) (x5 : Sl) (x34 : Bool) (y3_0 : Int) (y3_1 : Sl) (y3_2 : Sl) (H : Hp) : An := bif x34 then bif (x5.len : Int) == 0 then (rec laws_alive.id [] H).bind fun r16 => r16.1.toB.bind fun b17 => some (.bool b17, r16.2) else some (.bool false, H) else laws_FnNarrowRules.j1 rec k x4 x5 y3_0 y3_1 y3_2 H
noncomputable def laws_FnNarrowRules.f (rec : Rec) (k : Nat) (a0 : Sl) (H : Hp) : An := bif decide ((a0.len : Int) > 1048576) then some (.bool true, H) else (rec spec_DrawNarrowRules.id [.sl 1 a0] H).bind fun r1 => bif r1.1.isTup 2 then bif (r1.1.nth 0).isAgg 3 then (((r1.1.nth 0).cel 0).toI .i64).bind fun n2 => (((r1.1.nth 0).cel 1).toS 1).bind fun s3 => (((r1.1.nth 0).cel 2).toS 3).bind fun s4 => ((r1.1.nth 1).toS 1).bind fun s5 => (rec impl_NarrowRules.id [.agg [.int .i64 n2, .sl 1 s3, .sl 3 s4], .sl 1 s5] r1.2).bind fun r6 => (r6.1.toS 1).bind fun s7 => (rec spec_NarrowRules.id [.agg [.int .i64 n2, .sl 1 s3, .sl 3 s4], .sl 1 s5] r6.2).bind fun r8 => (r8.1.toS 1).bind fun s9 => (rec laws_sameInts.id [.sl 1 s7, .sl 1 s9] r8.2).bind fun r10 => r10.1.toB.bind fun b11 => bif !b11 then some (.bool false, r10.2) else (rec spec_PuzzleValid.id [.agg [.int .i64 n2, .sl 1 s3, .sl 3 s4]] r10.2).bind fun r12 => r12.1.toB.bind fun b13 => bif !b13 then laws_FnNarrowRules.j0 rec k s5 s7 true n2 s3 s4 r12.2 else (rec spec_MasksValid.id [.sl 1 s5, .int .i64 n2] r12.2).bind fun r14 => r14.1.toB.bind fun b15 => laws_FnNarrowRules.j0 rec k s5 s7 (!b15) n2 s3 s4 r14.2 else none else none
theorem laws_FnNarrowRules.j1_eq (rec : Rec) (k : Nat) : ∀ x4 x5 y3_0 y3_1 y3_2 H, laws_FnNarrowRules.j1 rec k x4 x5 y3_0 y3_1 y3_2 H = ex PP (orc laws_FnNarrowRules.id) rec k (sub laws_FnNarrowRules.body [1, 1, 1, 1, 1, 1]) (St.of 79 [(3, .lp 3 0), (4, .sl 1 x4), (5, .sl 1 x5)] [(3, [.int .i64 y3_0, .sl 1 y3_1, .sl 3 y3_2])]) H (kAt PP (orc laws_FnNarrowRules.id) rec k laws_FnNarrowRules.body [1, 1, 1, 1, 1, 1] [] (K0 PP Go.Proofs.Try.f5)) := by
 intros x4 x5 y3_0 y3_1 y3_2 H
 simp only [laws_FnNarrowRules.j1, -eq_self]
 kernel_rfl
theorem laws_FnNarrowRules.j0_eq (rec : Rec) (k : Nat) : ∀ x4 x5 x34 y3_0 y3_1 y3_2 H, laws_FnNarrowRules.j0 rec k x4 x5 x34 y3_0 y3_1 y3_2 H = ex PP (orc laws_FnNarrowRules.id) rec k (sub laws_FnNarrowRules.body [1, 1, 1, 1, 1, 0, 1]) (St.of 79 [(3, .lp 3 0), (4, .sl 1 x4), (5, .sl 1 x5), (34, .bool x34)] [(3, [.int .i64 y3_0, .sl 1 y3_1, .sl 3 y3_2])]) H (kAt PP (orc laws_FnNarrowRules.id) rec k laws_FnNarrowRules.body [1, 1, 1, 1, 1, 0, 1] [] (K0 PP Go.Proofs.Try.f5)) := by
 intros x4 x5 x34 y3_0 y3_1 y3_2 H
 simp only [laws_FnNarrowRules.j0, laws_FnNarrowRules.j1, -eq_self]
 kernel_rfl
theorem laws_FnNarrowRules.f_eq (rec : Rec) (k : Nat) : ∀ a0 H, laws_FnNarrowRules.f rec k a0 H = ex PP (orc laws_FnNarrowRules.id) rec k laws_FnNarrowRules.body (St.of 79 [(0, .sl 1 a0)] []) H (K0 PP Go.Proofs.Try.f5) := by
 intros a0 H
 simp only [laws_FnNarrowRules.f, laws_FnNarrowRules.j0, laws_FnNarrowRules.j1, -eq_self]
 kernel_rfl
theorem laws_FnNarrowRules.call (k : Nat) : ∀ a0 H, callF PP orc (k + 1) laws_FnNarrowRules.id [.sl 1 a0] H = laws_FnNarrowRules.f (callF PP orc k) k a0 H := by
 intros a0 H
 rw [callF_at (fn := Go.Proofs.Try.f5) (c := laws_FnNarrowRules.body) Go.Proofs.Try.func5 (by kernel_rfl) (Nat.le_of_ble_eq_true (by kernel_rfl)), laws_FnNarrowRules.f_eq]
 kernel_rfl
noncomputable def spec_DrawNarrowRules.body : Code := (Go.Proofs.Try.f23).body.getD .skip
noncomputable def spec_DrawNarrowRules.f (rec : Rec) (k : Nat) (a0 : Sl) (H : Hp) : An := (rec spec_l20Open.id [.sl 1 a0] H).bind fun r1 => r1.1.toP.bind fun p2 => (rec spec_l20Work.id [.ptr p2.1 p2.2] r1.2).bind fun r3 => bif r3.1.isTup 2 then bif (r3.1.nth 0).isAgg 3 then (((r3.1.nth 0).cel 0).toI .i64).bind fun n4 => (((r3.1.nth 0).cel 1).toS 1).bind fun s5 => (((r3.1.nth 0).cel 2).toS 3).bind fun s6 => ((r3.1.nth 1).toS 1).bind fun s7 => some (.tup [.agg [.int .i64 n4, .sl 1 s5, .sl 3 s6], .sl 1 s7], r3.2) else none else none
theorem spec_DrawNarrowRules.f_eq (rec : Rec) (k : Nat) : ∀ a0 H, spec_DrawNarrowRules.f rec k a0 H = ex PP (orc spec_DrawNarrowRules.id) rec k spec_DrawNarrowRules.body (St.of 9 [(0, .sl 1 a0)] []) H (K0 PP Go.Proofs.Try.f23) := by
 intros a0 H
 unfold spec_DrawNarrowRules.f
 kernel_rfl
theorem spec_DrawNarrowRules.call (k : Nat) : ∀ a0 H, callF PP orc (k + 1) spec_DrawNarrowRules.id [.sl 1 a0] H = spec_DrawNarrowRules.f (callF PP orc k) k a0 H := by
 intros a0 H
 rw [callF_at (fn := Go.Proofs.Try.f23) (c := spec_DrawNarrowRules.body) Go.Proofs.Try.func23 (by kernel_rfl) (Nat.le_of_ble_eq_true (by kernel_rfl)), spec_DrawNarrowRules.f_eq]
 kernel_rfl
end Go.Proofs.Ytchliocobgkmbaa.Rp
