/- Functions of the program, and what a call comes to. No conditions. -/
import Derived.Test.YtncmneliinbjdaaPMkx0
import Derived.Test.YtncmneliinbjdaaPMkx22
namespace Go.Proofs.Ytncmneliinbjdaa.PMk
open Go.RowKit Go.Proofs.YtncmneliinbjdaaW.PrintWords Go.Proofs.YtncmneliinbjdaaW.PrintLast Go.Proofs.YtncmneliinbjdaaW.PrintMore
set_option linter.unusedVariables false
set_option linter.unusedSimpArgs false

/-! ### spec_l17Reach: function 64 -/
mutual
def spec_l17Reach.l0 : Nat → List Bool → List Int → Int → Int → Int → Int → List (List Bool) → List (List Bool) → Option (Int)
 | 0, _, _, _, _, _, _, _, _ => none
 | k + 1, x7, x8, x9, x10, x258000, x258001, x258002, x258003 => if x10 < (x8.length : Int) then (if 0 ≤ x10 then (if (wrap64 (x258001 + 1)) = 0 then (none) else ((spec_l17Degree.f k x258000 x258001 x258002 x258003 (wrap64 (Int.tdiv (rd x8 x10) (wrap64 (x258001 + 1)))) (Int.tmod (rd x8 x10) (wrap64 (x258001 + 1)))).bind fun t268 => ((some (([] : List Int) : List Int)).bind fun y269 => (if (Int.tmod (rd x8 x10) (wrap64 (x258001 + 1))) < x258001 then (if 0 ≤ (wrap64 (Int.tdiv (rd x8 x10) (wrap64 (x258001 + 1)))) then (if (wrap64 (Int.tdiv (rd x8 x10) (wrap64 (x258001 + 1)))) < (x258002.length : Int) then (if 0 ≤ (Int.tmod (rd x8 x10) (wrap64 (x258001 + 1))) then (if (Int.tmod (rd x8 x10) (wrap64 (x258001 + 1))) < ((rd_L1 x258002 (wrap64 (Int.tdiv (rd x8 x10) (wrap64 (x258001 + 1))))).length : Int) then (spec_l17Reach.j1 k x7 x8 (wrap64 (x9 + t268)) x10 (wrap64 (Int.tdiv (rd x8 x10) (wrap64 (x258001 + 1)))) (Int.tmod (rd x8 x10) (wrap64 (x258001 + 1))) y269 (rdOf false (rd_L1 x258002 (wrap64 (Int.tdiv (rd x8 x10) (wrap64 (x258001 + 1))))) (Int.tmod (rd x8 x10) (wrap64 (x258001 + 1)))) x258000 x258001 x258002 x258003) else (none)) else (none)) else (none)) else (none)) else (spec_l17Reach.j1 k x7 x8 (wrap64 (x9 + t268)) x10 (wrap64 (Int.tdiv (rd x8 x10) (wrap64 (x258001 + 1)))) (Int.tmod (rd x8 x10) (wrap64 (x258001 + 1))) y269 false x258000 x258001 x258002 x258003))))) else (none)) else (some (wrap64 (Int.tdiv x9 2)))
def spec_l17Reach.j1 : Nat → List Bool → List Int → Int → Int → Int → Int → List Int → Bool → Int → Int → List (List Bool) → List (List Bool) → Option (Int)
 | 0, _, _, _, _, _, _, _, _, _, _, _, _ => none
 | k + 1, x7, x8, x9, x10, x11, x12, x13, x78, x258000, x258001, x258002, x258003 => if x78 = true then (if 0 ≤ x10 then (if x10 < (x8.length : Int) then (if x13.length < 17592186044416 then (spec_l17Reach.j2 k x7 x8 x9 x10 x11 x12 (x13 ++ [wrap64 ((rd x8 x10) + 1)]) x258000 x258001 x258002 x258003) else (none)) else (none)) else (none)) else (spec_l17Reach.j2 k x7 x8 x9 x10 x11 x12 x13 x258000 x258001 x258002 x258003)
def spec_l17Reach.j2 : Nat → List Bool → List Int → Int → Int → Int → Int → List Int → Int → Int → List (List Bool) → List (List Bool) → Option (Int)
 | 0, _, _, _, _, _, _, _, _, _, _, _ => none
 | k + 1, x7, x8, x9, x10, x11, x12, x13, x258000, x258001, x258002, x258003 => if x12 > 0 then (if 0 ≤ x11 then (if x11 < (x258002.length : Int) then (if 0 ≤ (wrap64 (x12 - 1)) then (if (wrap64 (x12 - 1)) < ((rd_L1 x258002 x11).length : Int) then (spec_l17Reach.j3 k x7 x8 x9 x10 x11 x12 x13 (rdOf false (rd_L1 x258002 x11) (wrap64 (x12 - 1))) x258000 x258001 x258002 x258003) else (none)) else (none)) else (none)) else (none)) else (spec_l17Reach.j3 k x7 x8 x9 x10 x11 x12 x13 false x258000 x258001 x258002 x258003)
def spec_l17Reach.j3 : Nat → List Bool → List Int → Int → Int → Int → Int → List Int → Bool → Int → Int → List (List Bool) → List (List Bool) → Option (Int)
 | 0, _, _, _, _, _, _, _, _, _, _, _, _ => none
 | k + 1, x7, x8, x9, x10, x11, x12, x13, x99, x258000, x258001, x258002, x258003 => if x99 = true then (if 0 ≤ x10 then (if x10 < (x8.length : Int) then (if x13.length < 17592186044416 then (spec_l17Reach.j4 k x7 x8 x9 x10 x11 x12 (x13 ++ [wrap64 ((rd x8 x10) - 1)]) x258000 x258001 x258002 x258003) else (none)) else (none)) else (none)) else (spec_l17Reach.j4 k x7 x8 x9 x10 x11 x12 x13 x258000 x258001 x258002 x258003)
def spec_l17Reach.j4 : Nat → List Bool → List Int → Int → Int → Int → Int → List Int → Int → Int → List (List Bool) → List (List Bool) → Option (Int)
 | 0, _, _, _, _, _, _, _, _, _, _, _ => none
 | k + 1, x7, x8, x9, x10, x11, x12, x13, x258000, x258001, x258002, x258003 => if x11 < x258000 then (if 0 ≤ x12 then (if x12 < (x258003.length : Int) then (if 0 ≤ x11 then (if x11 < ((rd_L1 x258003 x12).length : Int) then (spec_l17Reach.j5 k x7 x8 x9 x10 x11 x12 x13 (rdOf false (rd_L1 x258003 x12) x11) x258000 x258001 x258002 x258003) else (none)) else (none)) else (none)) else (none)) else (spec_l17Reach.j5 k x7 x8 x9 x10 x11 x12 x13 false x258000 x258001 x258002 x258003)
def spec_l17Reach.j5 : Nat → List Bool → List Int → Int → Int → Int → Int → List Int → Bool → Int → Int → List (List Bool) → List (List Bool) → Option (Int)
 | 0, _, _, _, _, _, _, _, _, _, _, _, _ => none
 | k + 1, x7, x8, x9, x10, x11, x12, x13, x121, x258000, x258001, x258002, x258003 => if x121 = true then (if 0 ≤ x10 then (if x10 < (x8.length : Int) then (if x13.length < 17592186044416 then (spec_l17Reach.j6 k x7 x8 x9 x10 x11 x12 (x13 ++ [wrap64 ((wrap64 ((rd x8 x10) + x258001)) + 1)]) x258000 x258001 x258002 x258003) else (none)) else (none)) else (none)) else (spec_l17Reach.j6 k x7 x8 x9 x10 x11 x12 x13 x258000 x258001 x258002 x258003)
def spec_l17Reach.j6 : Nat → List Bool → List Int → Int → Int → Int → Int → List Int → Int → Int → List (List Bool) → List (List Bool) → Option (Int)
 | 0, _, _, _, _, _, _, _, _, _, _, _ => none
 | k + 1, x7, x8, x9, x10, x11, x12, x13, x258000, x258001, x258002, x258003 => if x11 > 0 then (if 0 ≤ x12 then (if x12 < (x258003.length : Int) then (if 0 ≤ (wrap64 (x11 - 1)) then (if (wrap64 (x11 - 1)) < ((rd_L1 x258003 x12).length : Int) then (spec_l17Reach.j7 k x7 x8 x9 x10 x13 (rdOf false (rd_L1 x258003 x12) (wrap64 (x11 - 1))) x258000 x258001 x258002 x258003) else (none)) else (none)) else (none)) else (none)) else (spec_l17Reach.j7 k x7 x8 x9 x10 x13 false x258000 x258001 x258002 x258003)
def spec_l17Reach.j7 : Nat → List Bool → List Int → Int → Int → List Int → Bool → Int → Int → List (List Bool) → List (List Bool) → Option (Int)
 | 0, _, _, _, _, _, _, _, _, _, _ => none
 | k + 1, x7, x8, x9, x10, x13, x145, x258000, x258001, x258002, x258003 => if x145 = true then (if 0 ≤ x10 then (if x10 < (x8.length : Int) then (if x13.length < 17592186044416 then (spec_l17Reach.j8 k x7 x8 x9 x10 (x13 ++ [wrap64 ((wrap64 ((rd x8 x10) - x258001)) - 1)]) x258000 x258001 x258002 x258003) else (none)) else (none)) else (none)) else (spec_l17Reach.j8 k x7 x8 x9 x10 x13 x258000 x258001 x258002 x258003)
def spec_l17Reach.j8 : Nat → List Bool → List Int → Int → Int → List Int → Int → Int → List (List Bool) → List (List Bool) → Option (Int)
 | 0, _, _, _, _, _, _, _, _, _ => none
 | k + 1, x7, x8, x9, x10, x13, x258000, x258001, x258002, x258003 => spec_l17Reach.l1 k x7 x8 x9 x10 x13 0 x258000 x258001 x258002 x258003
def spec_l17Reach.l1 : Nat → List Bool → List Int → Int → Int → List Int → Int → Int → Int → List (List Bool) → List (List Bool) → Option (Int)
 | 0, _, _, _, _, _, _, _, _, _, _ => none
 | k + 1, x7, x8, x9, x10, x13, x14, x258000, x258001, x258002, x258003 => if x14 < (x13.length : Int) then (if 0 ≤ x14 then (if 0 ≤ (rd x13 x14) then (if (rd x13 x14) < (x7.length : Int) then (if (rdOf false x7 (rd x13 x14) = true) then (spec_l17Reach.l1 k x7 x8 x9 x10 x13 (wrap64 (x14 + 1)) x258000 x258001 x258002 x258003) else (if x8.length < 17592186044416 then (spec_l17Reach.l1 k (x7.set ((rd x13 x14) : Int).toNat true) (x8 ++ [rd x13 x14]) x9 x10 x13 (wrap64 (x14 + 1)) x258000 x258001 x258002 x258003) else (none))) else (none)) else (none)) else (none)) else (spec_l17Reach.l0 k x7 x8 x9 (wrap64 (x10 + 1)) x258000 x258001 x258002 x258003)
end
def spec_l17Reach.f (k : Nat) (a0_0 : Int) (a0_1 : Int) (l0_2 : List (List Bool)) (l0_3 : List (List Bool)) (a1 : Int) (a2 : Int) : Option (Int) := if 0 ≤ (wrap64 ((wrap64 (a0_0 + 1)) * (wrap64 (a0_1 + 1)))) then (if (wrap64 ((wrap64 (a0_0 + 1)) * (wrap64 (a0_1 + 1))) : Int).toNat ≤ 281474976710656 then ((some (List.replicate (wrap64 ((wrap64 (a0_0 + 1)) * (wrap64 (a0_1 + 1))) : Int).toNat false : List Bool)).bind fun y258 => ((some (([wrap64 ((wrap64 (a1 * (wrap64 (a0_1 + 1)))) + a2)] : List Int) : List Int)).bind fun y261 => (if 0 < (y261.length : Int) then (if 0 ≤ (rd y261 0) then (if (rd y261 0) < (y258.length : Int) then (spec_l17Reach.l0 k (y258.set ((rd y261 0) : Int).toNat true) y261 0 0 a0_0 a0_1 l0_2 l0_3) else (none)) else (none)) else (none)))) else (none)) else (none)
theorem spec_l17Reach.mono_l : ∀ k, (∀ y0 y1 y2 y3 y4 y5 y6 y7, LeO (spec_l17Reach.l0 k y0 y1 y2 y3 y4 y5 y6 y7) (spec_l17Reach.l0 (k + 1) y0 y1 y2 y3 y4 y5 y6 y7)) ∧ (∀ y0 y1 y2 y3 y4 y5 y6 y7 y8 y9 y10 y11, LeO (spec_l17Reach.j1 k y0 y1 y2 y3 y4 y5 y6 y7 y8 y9 y10 y11) (spec_l17Reach.j1 (k + 1) y0 y1 y2 y3 y4 y5 y6 y7 y8 y9 y10 y11)) ∧ (∀ y0 y1 y2 y3 y4 y5 y6 y7 y8 y9 y10, LeO (spec_l17Reach.j2 k y0 y1 y2 y3 y4 y5 y6 y7 y8 y9 y10) (spec_l17Reach.j2 (k + 1) y0 y1 y2 y3 y4 y5 y6 y7 y8 y9 y10)) ∧ (∀ y0 y1 y2 y3 y4 y5 y6 y7 y8 y9 y10 y11, LeO (spec_l17Reach.j3 k y0 y1 y2 y3 y4 y5 y6 y7 y8 y9 y10 y11) (spec_l17Reach.j3 (k + 1) y0 y1 y2 y3 y4 y5 y6 y7 y8 y9 y10 y11)) ∧ (∀ y0 y1 y2 y3 y4 y5 y6 y7 y8 y9 y10, LeO (spec_l17Reach.j4 k y0 y1 y2 y3 y4 y5 y6 y7 y8 y9 y10) (spec_l17Reach.j4 (k + 1) y0 y1 y2 y3 y4 y5 y6 y7 y8 y9 y10)) ∧ (∀ y0 y1 y2 y3 y4 y5 y6 y7 y8 y9 y10 y11, LeO (spec_l17Reach.j5 k y0 y1 y2 y3 y4 y5 y6 y7 y8 y9 y10 y11) (spec_l17Reach.j5 (k + 1) y0 y1 y2 y3 y4 y5 y6 y7 y8 y9 y10 y11)) ∧ (∀ y0 y1 y2 y3 y4 y5 y6 y7 y8 y9 y10, LeO (spec_l17Reach.j6 k y0 y1 y2 y3 y4 y5 y6 y7 y8 y9 y10) (spec_l17Reach.j6 (k + 1) y0 y1 y2 y3 y4 y5 y6 y7 y8 y9 y10)) ∧ (∀ y0 y1 y2 y3 y4 y5 y6 y7 y8 y9, LeO (spec_l17Reach.j7 k y0 y1 y2 y3 y4 y5 y6 y7 y8 y9) (spec_l17Reach.j7 (k + 1) y0 y1 y2 y3 y4 y5 y6 y7 y8 y9)) ∧ (∀ y0 y1 y2 y3 y4 y5 y6 y7 y8, LeO (spec_l17Reach.j8 k y0 y1 y2 y3 y4 y5 y6 y7 y8) (spec_l17Reach.j8 (k + 1) y0 y1 y2 y3 y4 y5 y6 y7 y8)) ∧ (∀ y0 y1 y2 y3 y4 y5 y6 y7 y8 y9, LeO (spec_l17Reach.l1 k y0 y1 y2 y3 y4 y5 y6 y7 y8 y9) (spec_l17Reach.l1 (k + 1) y0 y1 y2 y3 y4 y5 y6 y7 y8 y9))
 | 0 => ⟨fun _ _ _ _ _ _ _ _ r h => by simp [spec_l17Reach.l0] at h, fun _ _ _ _ _ _ _ _ _ _ _ _ r h => by simp [spec_l17Reach.j1] at h, fun _ _ _ _ _ _ _ _ _ _ _ r h => by simp [spec_l17Reach.j2] at h, fun _ _ _ _ _ _ _ _ _ _ _ _ r h => by simp [spec_l17Reach.j3] at h, fun _ _ _ _ _ _ _ _ _ _ _ r h => by simp [spec_l17Reach.j4] at h, fun _ _ _ _ _ _ _ _ _ _ _ _ r h => by simp [spec_l17Reach.j5] at h, fun _ _ _ _ _ _ _ _ _ _ _ r h => by simp [spec_l17Reach.j6] at h, fun _ _ _ _ _ _ _ _ _ _ r h => by simp [spec_l17Reach.j7] at h, fun _ _ _ _ _ _ _ _ _ r h => by simp [spec_l17Reach.j8] at h, fun _ _ _ _ _ _ _ _ _ _ r h => by simp [spec_l17Reach.l1] at h⟩
 | k + 1 => by
  obtain ⟨ih0, ih1, ih2, ih3, ih4, ih5, ih6, ih7, ih8, ih9⟩ := spec_l17Reach.mono_l k
  refine ⟨?_, ?_, ?_, ?_, ?_, ?_, ?_, ?_, ?_, ?_⟩
  ·intro y0 y1 y2 y3 y4 y5 y6 y7
   unfold spec_l17Reach.l0
   repeat' first | (with_reducible first | exact ih0 _ _ _ _ _ _ _ _ | exact ih1 _ _ _ _ _ _ _ _ _ _ _ _ | exact ih2 _ _ _ _ _ _ _ _ _ _ _ | exact ih3 _ _ _ _ _ _ _ _ _ _ _ _ | exact ih4 _ _ _ _ _ _ _ _ _ _ _ | exact ih5 _ _ _ _ _ _ _ _ _ _ _ _ | exact ih6 _ _ _ _ _ _ _ _ _ _ _ | exact ih7 _ _ _ _ _ _ _ _ _ _ | exact ih8 _ _ _ _ _ _ _ _ _ | exact ih9 _ _ _ _ _ _ _ _ _ _ | exact spec_l17Degree.mono _ _ _ _ _ _ _ | exact LeO.refl _ | exact LeO.none _ | refine LeO.ite ?_ ?_ | refine LeO.bind ?_ (fun _ => ?_)) | exact LeO.none _ | refine LeO.ite ?_ ?_ | refine LeO.bind ?_ (fun _ => ?_)
  ·intro y0 y1 y2 y3 y4 y5 y6 y7 y8 y9 y10 y11
   unfold spec_l17Reach.j1
   repeat' first | (with_reducible first | exact ih0 _ _ _ _ _ _ _ _ | exact ih1 _ _ _ _ _ _ _ _ _ _ _ _ | exact ih2 _ _ _ _ _ _ _ _ _ _ _ | exact ih3 _ _ _ _ _ _ _ _ _ _ _ _ | exact ih4 _ _ _ _ _ _ _ _ _ _ _ | exact ih5 _ _ _ _ _ _ _ _ _ _ _ _ | exact ih6 _ _ _ _ _ _ _ _ _ _ _ | exact ih7 _ _ _ _ _ _ _ _ _ _ | exact ih8 _ _ _ _ _ _ _ _ _ | exact ih9 _ _ _ _ _ _ _ _ _ _ | exact spec_l17Degree.mono _ _ _ _ _ _ _ | exact LeO.refl _ | exact LeO.none _ | refine LeO.ite ?_ ?_ | refine LeO.bind ?_ (fun _ => ?_)) | exact LeO.none _ | refine LeO.ite ?_ ?_ | refine LeO.bind ?_ (fun _ => ?_)
  ·intro y0 y1 y2 y3 y4 y5 y6 y7 y8 y9 y10
   unfold spec_l17Reach.j2
   repeat' first | (with_reducible first | exact ih0 _ _ _ _ _ _ _ _ | exact ih1 _ _ _ _ _ _ _ _ _ _ _ _ | exact ih2 _ _ _ _ _ _ _ _ _ _ _ | exact ih3 _ _ _ _ _ _ _ _ _ _ _ _ | exact ih4 _ _ _ _ _ _ _ _ _ _ _ | exact ih5 _ _ _ _ _ _ _ _ _ _ _ _ | exact ih6 _ _ _ _ _ _ _ _ _ _ _ | exact ih7 _ _ _ _ _ _ _ _ _ _ | exact ih8 _ _ _ _ _ _ _ _ _ | exact ih9 _ _ _ _ _ _ _ _ _ _ | exact spec_l17Degree.mono _ _ _ _ _ _ _ | exact LeO.refl _ | exact LeO.none _ | refine LeO.ite ?_ ?_ | refine LeO.bind ?_ (fun _ => ?_)) | exact LeO.none _ | refine LeO.ite ?_ ?_ | refine LeO.bind ?_ (fun _ => ?_)
  ·intro y0 y1 y2 y3 y4 y5 y6 y7 y8 y9 y10 y11
   unfold spec_l17Reach.j3
   repeat' first | (with_reducible first | exact ih0 _ _ _ _ _ _ _ _ | exact ih1 _ _ _ _ _ _ _ _ _ _ _ _ | exact ih2 _ _ _ _ _ _ _ _ _ _ _ | exact ih3 _ _ _ _ _ _ _ _ _ _ _ _ | exact ih4 _ _ _ _ _ _ _ _ _ _ _ | exact ih5 _ _ _ _ _ _ _ _ _ _ _ _ | exact ih6 _ _ _ _ _ _ _ _ _ _ _ | exact ih7 _ _ _ _ _ _ _ _ _ _ | exact ih8 _ _ _ _ _ _ _ _ _ | exact ih9 _ _ _ _ _ _ _ _ _ _ | exact spec_l17Degree.mono _ _ _ _ _ _ _ | exact LeO.refl _ | exact LeO.none _ | refine LeO.ite ?_ ?_ | refine LeO.bind ?_ (fun _ => ?_)) | exact LeO.none _ | refine LeO.ite ?_ ?_ | refine LeO.bind ?_ (fun _ => ?_)
  ·intro y0 y1 y2 y3 y4 y5 y6 y7 y8 y9 y10
   unfold spec_l17Reach.j4
   repeat' first | (with_reducible first | exact ih0 _ _ _ _ _ _ _ _ | exact ih1 _ _ _ _ _ _ _ _ _ _ _ _ | exact ih2 _ _ _ _ _ _ _ _ _ _ _ | exact ih3 _ _ _ _ _ _ _ _ _ _ _ _ | exact ih4 _ _ _ _ _ _ _ _ _ _ _ | exact ih5 _ _ _ _ _ _ _ _ _ _ _ _ | exact ih6 _ _ _ _ _ _ _ _ _ _ _ | exact ih7 _ _ _ _ _ _ _ _ _ _ | exact ih8 _ _ _ _ _ _ _ _ _ | exact ih9 _ _ _ _ _ _ _ _ _ _ | exact spec_l17Degree.mono _ _ _ _ _ _ _ | exact LeO.refl _ | exact LeO.none _ | refine LeO.ite ?_ ?_ | refine LeO.bind ?_ (fun _ => ?_)) | exact LeO.none _ | refine LeO.ite ?_ ?_ | refine LeO.bind ?_ (fun _ => ?_)
  ·intro y0 y1 y2 y3 y4 y5 y6 y7 y8 y9 y10 y11
   unfold spec_l17Reach.j5
   repeat' first | (with_reducible first | exact ih0 _ _ _ _ _ _ _ _ | exact ih1 _ _ _ _ _ _ _ _ _ _ _ _ | exact ih2 _ _ _ _ _ _ _ _ _ _ _ | exact ih3 _ _ _ _ _ _ _ _ _ _ _ _ | exact ih4 _ _ _ _ _ _ _ _ _ _ _ | exact ih5 _ _ _ _ _ _ _ _ _ _ _ _ | exact ih6 _ _ _ _ _ _ _ _ _ _ _ | exact ih7 _ _ _ _ _ _ _ _ _ _ | exact ih8 _ _ _ _ _ _ _ _ _ | exact ih9 _ _ _ _ _ _ _ _ _ _ | exact spec_l17Degree.mono _ _ _ _ _ _ _ | exact LeO.refl _ | exact LeO.none _ | refine LeO.ite ?_ ?_ | refine LeO.bind ?_ (fun _ => ?_)) | exact LeO.none _ | refine LeO.ite ?_ ?_ | refine LeO.bind ?_ (fun _ => ?_)
  ·intro y0 y1 y2 y3 y4 y5 y6 y7 y8 y9 y10
   unfold spec_l17Reach.j6
   repeat' first | (with_reducible first | exact ih0 _ _ _ _ _ _ _ _ | exact ih1 _ _ _ _ _ _ _ _ _ _ _ _ | exact ih2 _ _ _ _ _ _ _ _ _ _ _ | exact ih3 _ _ _ _ _ _ _ _ _ _ _ _ | exact ih4 _ _ _ _ _ _ _ _ _ _ _ | exact ih5 _ _ _ _ _ _ _ _ _ _ _ _ | exact ih6 _ _ _ _ _ _ _ _ _ _ _ | exact ih7 _ _ _ _ _ _ _ _ _ _ | exact ih8 _ _ _ _ _ _ _ _ _ | exact ih9 _ _ _ _ _ _ _ _ _ _ | exact spec_l17Degree.mono _ _ _ _ _ _ _ | exact LeO.refl _ | exact LeO.none _ | refine LeO.ite ?_ ?_ | refine LeO.bind ?_ (fun _ => ?_)) | exact LeO.none _ | refine LeO.ite ?_ ?_ | refine LeO.bind ?_ (fun _ => ?_)
  ·intro y0 y1 y2 y3 y4 y5 y6 y7 y8 y9
   unfold spec_l17Reach.j7
   repeat' first | (with_reducible first | exact ih0 _ _ _ _ _ _ _ _ | exact ih1 _ _ _ _ _ _ _ _ _ _ _ _ | exact ih2 _ _ _ _ _ _ _ _ _ _ _ | exact ih3 _ _ _ _ _ _ _ _ _ _ _ _ | exact ih4 _ _ _ _ _ _ _ _ _ _ _ | exact ih5 _ _ _ _ _ _ _ _ _ _ _ _ | exact ih6 _ _ _ _ _ _ _ _ _ _ _ | exact ih7 _ _ _ _ _ _ _ _ _ _ | exact ih8 _ _ _ _ _ _ _ _ _ | exact ih9 _ _ _ _ _ _ _ _ _ _ | exact spec_l17Degree.mono _ _ _ _ _ _ _ | exact LeO.refl _ | exact LeO.none _ | refine LeO.ite ?_ ?_ | refine LeO.bind ?_ (fun _ => ?_)) | exact LeO.none _ | refine LeO.ite ?_ ?_ | refine LeO.bind ?_ (fun _ => ?_)
  ·intro y0 y1 y2 y3 y4 y5 y6 y7 y8
   unfold spec_l17Reach.j8
   repeat' first | (with_reducible first | exact ih0 _ _ _ _ _ _ _ _ | exact ih1 _ _ _ _ _ _ _ _ _ _ _ _ | exact ih2 _ _ _ _ _ _ _ _ _ _ _ | exact ih3 _ _ _ _ _ _ _ _ _ _ _ _ | exact ih4 _ _ _ _ _ _ _ _ _ _ _ | exact ih5 _ _ _ _ _ _ _ _ _ _ _ _ | exact ih6 _ _ _ _ _ _ _ _ _ _ _ | exact ih7 _ _ _ _ _ _ _ _ _ _ | exact ih8 _ _ _ _ _ _ _ _ _ | exact ih9 _ _ _ _ _ _ _ _ _ _ | exact spec_l17Degree.mono _ _ _ _ _ _ _ | exact LeO.refl _ | exact LeO.none _ | refine LeO.ite ?_ ?_ | refine LeO.bind ?_ (fun _ => ?_)) | exact LeO.none _ | refine LeO.ite ?_ ?_ | refine LeO.bind ?_ (fun _ => ?_)
  ·intro y0 y1 y2 y3 y4 y5 y6 y7 y8 y9
   unfold spec_l17Reach.l1
   repeat' first | (with_reducible first | exact ih0 _ _ _ _ _ _ _ _ | exact ih1 _ _ _ _ _ _ _ _ _ _ _ _ | exact ih2 _ _ _ _ _ _ _ _ _ _ _ | exact ih3 _ _ _ _ _ _ _ _ _ _ _ _ | exact ih4 _ _ _ _ _ _ _ _ _ _ _ | exact ih5 _ _ _ _ _ _ _ _ _ _ _ _ | exact ih6 _ _ _ _ _ _ _ _ _ _ _ | exact ih7 _ _ _ _ _ _ _ _ _ _ | exact ih8 _ _ _ _ _ _ _ _ _ | exact ih9 _ _ _ _ _ _ _ _ _ _ | exact spec_l17Degree.mono _ _ _ _ _ _ _ | exact LeO.refl _ | exact LeO.none _ | refine LeO.ite ?_ ?_ | refine LeO.bind ?_ (fun _ => ?_)) | exact LeO.none _ | refine LeO.ite ?_ ?_ | refine LeO.bind ?_ (fun _ => ?_)
theorem spec_l17Reach.mono : ∀ a0 a1 a2 a3 a4 a5 k, LeO (spec_l17Reach.f k a0 a1 a2 a3 a4 a5) (spec_l17Reach.f (k + 1) a0 a1 a2 a3 a4 a5) := by
 intro a0 a1 a2 a3 a4 a5 k
 obtain ⟨ih0, ih1, ih2, ih3, ih4, ih5, ih6, ih7, ih8, ih9⟩ := spec_l17Reach.mono_l k
 unfold spec_l17Reach.f
 repeat' first | (with_reducible first | exact ih0 _ _ _ _ _ _ _ _ | exact ih1 _ _ _ _ _ _ _ _ _ _ _ _ | exact ih2 _ _ _ _ _ _ _ _ _ _ _ | exact ih3 _ _ _ _ _ _ _ _ _ _ _ _ | exact ih4 _ _ _ _ _ _ _ _ _ _ _ | exact ih5 _ _ _ _ _ _ _ _ _ _ _ _ | exact ih6 _ _ _ _ _ _ _ _ _ _ _ | exact ih7 _ _ _ _ _ _ _ _ _ _ | exact ih8 _ _ _ _ _ _ _ _ _ | exact ih9 _ _ _ _ _ _ _ _ _ _ | exact spec_l17Degree.mono _ _ _ _ _ _ _ | exact LeO.refl _ | exact LeO.none _ | refine LeO.ite ?_ ?_ | refine LeO.bind ?_ (fun _ => ?_)) | exact LeO.none _ | refine LeO.ite ?_ ?_ | refine LeO.bind ?_ (fun _ => ?_)
def spec_l17Reach.T8 : Bool × List (List Nat × List Nat) := (true, [([], []), ([], []), ([0, 1], [0, 1]), ([2], [2]), ([], []), ([4], [4]), ([5], [5]), ([3, 6], [3, 6]), ([7, 0, 1, 2, 3, 4, 5, 6, 7], [7])])
def spec_l17Reach.B8 : List Nat := [0, 0, 3, 7, 0, 16, 48, 127, 255]
theorem spec_l17Reach.tab8 : rtab .any (opsOf Try.f64 8) = spec_l17Reach.T8 := by kernel_rfl
theorem spec_l17Reach.bits8 : waitsOk spec_l17Reach.T8.2 spec_l17Reach.B8 = true := by kernel_rfl
def spec_l17Reach.T9 : Bool × List (List Nat × List Nat) := (true, [([], []), ([], []), ([0, 1], [0, 1]), ([2], [2]), ([], []), ([4], [4]), ([5], [5]), ([3, 6], [3, 6]), ([7, 0, 1, 2, 3, 4, 5, 6, 7], [7])])
def spec_l17Reach.B9 : List Nat := [0, 0, 3, 7, 0, 16, 48, 127, 255]
theorem spec_l17Reach.tab9 : rtab .any (opsOf Try.f64 9) = spec_l17Reach.T9 := by kernel_rfl
theorem spec_l17Reach.bits9 : waitsOk spec_l17Reach.T9.2 spec_l17Reach.B9 = true := by kernel_rfl
def spec_l17Reach.T17 : Bool × List (List Nat × List Nat) := (true, [([], []), ([], []), ([], []), ([1, 2], [1, 2]), ([3], [3]), ([], []), ([5], [5]), ([4, 6], [4, 6]), ([7], [7]), ([8], [8]), ([0, 9], [0, 9]), ([10, 10, 0, 1, 2, 3, 4, 5, 6, 7, 8, 9, 10], [0, 10])])
def spec_l17Reach.B17 : List Nat := [0, 0, 0, 6, 14, 0, 32, 126, 254, 510, 1023, 2047]
theorem spec_l17Reach.tab17 : rtab .any (opsOf Try.f64 17) = spec_l17Reach.T17 := by kernel_rfl
theorem spec_l17Reach.bits17 : waitsOk spec_l17Reach.T17.2 spec_l17Reach.B17 = true := by kernel_rfl
def spec_l17Reach.T19 : Bool × List (List Nat × List Nat) := (true, [([], []), ([], []), ([], []), ([1, 2], [1, 2]), ([3], [3]), ([], []), ([5], [5]), ([4, 6], [4, 6]), ([7], [7]), ([8], [8]), ([0, 9], [0, 9]), ([10, 10, 0, 1, 2, 3, 4, 5, 6, 7, 8, 9, 10], [0, 10])])
def spec_l17Reach.B19 : List Nat := [0, 0, 0, 6, 14, 0, 32, 126, 254, 510, 1023, 2047]
theorem spec_l17Reach.tab19 : rtab .any (opsOf Try.f64 19) = spec_l17Reach.T19 := by kernel_rfl
theorem spec_l17Reach.bits19 : waitsOk spec_l17Reach.T19.2 spec_l17Reach.B19 = true := by kernel_rfl
set_option maxHeartbeats 8000000 in
set_option maxRecDepth 100000 in
theorem spec_l17Reach.calls (k : Nat) (a0_0 : Int) (a0_1 : Int) (A0_2 : Option Addr) (c0_2 : Nat) (l0_2 : List (List Bool)) (A0_3 : Option Addr) (c0_3 : Nat) (l0_3 : List (List Bool)) (a1 : Int) (a2 : Int) (r : Int) (w : World) (hr0_2 : Kd.C (Kd.slice 4 Kd.bool) w A0_2 l0_2.length l0_2) (hc0_2 : l0_2.length ≤ c0_2) (hr0_3 : Kd.C (Kd.slice 4 Kd.bool) w A0_3 l0_3.length l0_3) (hc0_3 : l0_3.length ≤ c0_3) (h : spec_l17Reach.f k a0_0 a0_1 l0_2 l0_3 a1 a2 = some r) :
  Calls Try.prog 64 #[.agg #[.int .i64 a0_0, .int .i64 a0_1, .slice A0_2 l0_2.length c0_2, .slice A0_3 l0_3.length c0_3], .int .i64 a1, .int .i64 a2] w fun e w' => e = .returned (.int .i64 r) ∧ Below w.heap.size w w' := by
 have hu25 := Try.underlying25
 have HR0_2 := asd hr0_2
 have HC0_2 := asd hc0_2
 clear hr0_2 hc0_2
 have HR0_3 := asd hr0_3
 have HC0_3 := asd hc0_3
 clear hr0_3 hc0_3
 have HB := asd (Below.refl w.heap.size w)
 have H : (if 0 ≤ (wrap64 ((wrap64 (a0_0 + 1)) * (wrap64 (a0_1 + 1)))) then (if (wrap64 ((wrap64 (a0_0 + 1)) * (wrap64 (a0_1 + 1))) : Int).toNat ≤ 281474976710656 then ((some (List.replicate (wrap64 ((wrap64 (a0_0 + 1)) * (wrap64 (a0_1 + 1))) : Int).toNat false : List Bool)).bind fun y258 => ((some (([wrap64 ((wrap64 (a1 * (wrap64 (a0_1 + 1)))) + a2)] : List Int) : List Int)).bind fun y261 => (if 0 < (y261.length : Int) then (if 0 ≤ (rd y261 0) then (if (rd y261 0) < (y258.length : Int) then (spec_l17Reach.l0 k (y258.set ((rd y261 0) : Int).toNat true) y261 0 0 a0_0 a0_1 l0_2 l0_3) else (none)) else (none)) else (none)))) else (none)) else (none)) = some r := h
 clear h
 obtain ⟨ji4, hji4⟩ : ∃ j_ : Int, (wrap64 ((wrap64 (a0_0 + 1)) * (wrap64 (a0_1 + 1)))) = j_ := ⟨_, rfl⟩
 replace H : (if 0 ≤ (ji4) then (if (ji4 : Int).toNat ≤ 281474976710656 then ((some (List.replicate (ji4 : Int).toNat false : List Bool)).bind fun y258 => ((some (([wrap64 ((wrap64 (a1 * (wrap64 (a0_1 + 1)))) + a2)] : List Int) : List Int)).bind fun y261 => (if 0 < (y261.length : Int) then (if 0 ≤ (rd y261 0) then (if (rd y261 0) < (y258.length : Int) then (spec_l17Reach.l0 k (y258.set ((rd y261 0) : Int).toNat true) y261 0 0 a0_0 a0_1 l0_2 l0_3) else (none)) else (none)) else (none)))) else (none)) else (none)) = some r := by first | (rw [hji4] at H; exact H) | (simp only [hji4] at H ⊢; exact H)
 have hji4w : (IntKind.i64.wrap ((wrap64 (a0_0 + 1)) * (wrap64 (a0_1 + 1)))) = ji4 := (i64_w _).trans hji4
 by_cases c5 : 0 ≤ (ji4)
 ·rw [if_pos c5] at H
  have c5b0 := eq_true c5
  have c5b1 : decide (0 ≤ (ji4)) = true := decide_eq_true c5
  clear c5
  by_cases c6 : (ji4 : Int).toNat ≤ 281474976710656
  ·rw [if_pos c6] at H
   have c6b0 := eq_true c6
   have c6b1 : decide ((ji4 : Int).toNat ≤ 281474976710656) = true := decide_eq_true c6
   clear c6
   obtain ⟨y258, hy258⟩ : ∃ y_ : List Bool, y_ = (List.replicate (ji4 : Int).toNat false) := ⟨_, rfl⟩
   replace H : ((some (([wrap64 ((wrap64 (a1 * (wrap64 (a0_1 + 1)))) + a2)] : List Int) : List Int)).bind fun y261 => (if 0 < (y261.length : Int) then (if 0 ≤ (rd y261 0) then (if (rd y261 0) < (y258.length : Int) then (spec_l17Reach.l0 k (y258.set ((rd y261 0) : Int).toNat true) y261 0 0 a0_0 a0_1 l0_2 l0_3) else (none)) else (none)) else (none))) = some r := by first | (rw [hy258]; with_reducible exact H) | (have H2_ := (Option.bind_some _ _).symm.trans H; rw [hy258]; with_reducible exact H2_) | (have H2_ := (Option.bind_some _ _).symm.trans H; with_reducible exact H2_) | with_reducible exact H | (rw [hy258]; exact H) | exact H
   have Ny258 := asd hy258
   clear hy258
   obtain ⟨y261, hy261⟩ : ∃ y_ : List Int, y_ = (([wrap64 ((wrap64 (a1 * (wrap64 (a0_1 + 1)))) + a2)] : List Int)) := ⟨_, rfl⟩
   replace H : (if 0 < (y261.length : Int) then (if 0 ≤ (rd y261 0) then (if (rd y261 0) < (y258.length : Int) then (spec_l17Reach.l0 k (y258.set ((rd y261 0) : Int).toNat true) y261 0 0 a0_0 a0_1 l0_2 l0_3) else (none)) else (none)) else (none)) = some r := by first | (rw [hy261]; with_reducible exact H) | (have H2_ := (Option.bind_some _ _).symm.trans H; rw [hy261]; with_reducible exact H2_) | (have H2_ := (Option.bind_some _ _).symm.trans H; with_reducible exact H2_) | with_reducible exact H | (rw [hy261]; exact H) | exact H
   have Ny261 := asd hy261
   clear hy261
   by_cases c7 : 0 < (y261.length : Int)
   ·rw [if_pos c7] at H
    have c7b0 : decide (0 < (y261.length : Int)) = true := decide_eq_true c7
    have c7b1 : decide (0 < y261.length) = true := decide_eq_true (by omega)
    clear c7
    by_cases c8 : 0 ≤ (rd y261 0)
    ·rw [if_pos c8] at H
     have c8b0 : decide (0 ≤ (rd y261 0)) = true := decide_eq_true c8
     clear c8
     by_cases c9 : (rd y261 0) < (y258.length : Int)
     ·rw [if_pos c9] at H
      have c9b0 : decide ((rd y261 0) < (y258.length : Int)) = true := decide_eq_true c9
      clear c9
      obtain ⟨y265, hy265⟩ : ∃ y_ : List Bool, y_ = (y258.set ((rd y261 0) : Int).toNat true) := ⟨_, rfl⟩
      replace H : (spec_l17Reach.l0 k y265 y261 0 0 a0_0 a0_1 l0_2 l0_3) = some r := by first | (rw [hy265]; with_reducible exact H) | (have H2_ := (Option.bind_some _ _).symm.trans H; rw [hy265]; with_reducible exact H2_) | (have H2_ := (Option.bind_some _ _).symm.trans H; with_reducible exact H2_) | with_reducible exact H | (rw [hy265]; exact H) | exact H
      have Ny265 := asd hy265
      clear hy265
      have H' := asd H
      clear H
      go_enter Try.func64, Try.ntmps64
      go_wp2_with (first | ((with_reducible refine gate_dst (N := 3) rfl ?_); refine box_event ?hg (N := 3) ?hd (cs := #[.int .i64 a0_0, .int .i64 a0_1, .slice A0_2 l0_2.length c0_2, .slice A0_3 l0_3.length c0_3]) (t := 25) ?hr ?_; (case hd => rfl); (case hg => rfl); (case hr => first | (go_simp; done) | (go_simp; rfl)); intro gb257 hg w11 hbox hb; have n0_ := asd (below_step (by repeat (first | (with_reducible first | exact HB.out | apply below_alloc | apply pw_below_drewN | apply below_drew1) | exact HB.out)) hb); have n1_ := asd (hbox); have n2_ := asd ((by rw [hg]; exact (below_size (by repeat (first | (with_reducible first | exact HB.out | apply below_alloc | apply pw_below_drewN | apply below_drew1) | exact HB.out))) : w.heap.size ≤ gb257)); have n3_ := asd ((by rw [hg]; exact (below_size (by repeat (first | (with_reducible first | exact HB.out | apply below_alloc | apply pw_below_drewN | apply below_drew1) | exact HB.out))) : w.heap.size ≤ gb257)); clear HB; have HB := n0_; have BK257 := n1_; have GW257 := n2_; have GE257 := n3_; clear n0_ n1_ n2_ n3_ hb hbox hg; have hcz12_0 : w11.cell? ⟨gb257, 0, none⟩ = some (.int .i64 a0_0) := (blk_cell BK257.out 0).trans rfl; have hcz12_1 : w11.cell? ⟨gb257, 1, none⟩ = some (.int .i64 a0_1) := (blk_cell BK257.out 1).trans rfl; have hcz12_2 : w11.cell? ⟨gb257, 2, none⟩ = some (.slice A0_2 l0_2.length c0_2) := (blk_cell BK257.out 2).trans rfl; have hcz12_3 : w11.cell? ⟨gb257, 3, none⟩ = some (.slice A0_3 l0_3.length c0_3) := (blk_cell BK257.out 3).trans rfl; have hfz12_0 := blk_frozen BK257.out 0; have hfz12_1 := blk_frozen BK257.out 1; have hfz12_2 := blk_frozen BK257.out 2; have hfz12_3 := blk_frozen BK257.out 3) | ((with_reducible refine gate_dst (N := 22) rfl ?_); refine Kd.R_make Kd.bool _ 4 rfl (N := 22) rfl 22 _ _ rfl ji4 rfl rfl Try.underlying22 (.bool false) 1 info4 rfl (by decide) (by omega) false (ok := fun _ => True) (okp := fun _ => True) rfl (fun _ hk => hk) trivial (of_decide_eq_true (by first | (with_reducible assumption) | assumption)) (Nat.le_trans (Nat.mul_le_mul_right _ (of_decide_eq_true (by first | (with_reducible assumption) | assumption) : ji4.toNat ≤ 281474976710656)) (by omega)) (Below.refl _ _) (Nat.le_refl _) ?_; intro v259 w13 ho14 hb hg_ hnew_; clear hg_ hnew_; (first | rw [← Ny258.out] at ho14 | (simp only [Int.reduceToNat] at ho14; rw [← Ny258.out] at ho14)); have n0_ := asd (Kd.R_lower ho14 (below_size (by repeat (first | (with_reducible first | exact HB.out | apply below_alloc | apply pw_below_drewN | apply below_drew1 | refine below_set ?_ GE257.out) | exact HB.out)))); have n1_ := asd (blk_below (g := gb257) (o := .cells #[.int .i64 a0_0, .int .i64 a0_1, .slice A0_2 l0_2.length c0_2, .slice A0_3 l0_3.length c0_3] 25 (0, 0)) (by (with_reducible repeat (first | refine blk_drewN ?_ _ | refine blk_drew ?_ | refine blk_alloc ?_ _)); exact BK257.out) hb); have n2_ := asd (below_step (by repeat (first | (with_reducible first | exact HB.out | apply below_alloc | apply pw_below_drewN | apply below_drew1 | refine below_set ?_ GE257.out) | exact HB.out)) hb); clear BK257 HB; have HO260 := n0_; have BK257 := n1_; have HB := n2_; clear n0_ n1_ n2_ hb ho14; have hcz15_0 : w13.cell? ⟨gb257, 0, none⟩ = some (.int .i64 a0_0) := (blk_cell BK257.out 0).trans rfl; have hcz15_1 : w13.cell? ⟨gb257, 1, none⟩ = some (.int .i64 a0_1) := (blk_cell BK257.out 1).trans rfl; have hcz15_2 : w13.cell? ⟨gb257, 2, none⟩ = some (.slice A0_2 l0_2.length c0_2) := (blk_cell BK257.out 2).trans rfl; have hcz15_3 : w13.cell? ⟨gb257, 3, none⟩ = some (.slice A0_3 l0_3.length c0_3) := (blk_cell BK257.out 3).trans rfl; have hfz15_0 := blk_frozen BK257.out 0; have hfz15_1 := blk_frozen BK257.out 1; have hfz15_2 := blk_frozen BK257.out 2; have hfz15_3 := blk_frozen BK257.out 3) | ((with_reducible refine gate_dst (N := 30) rfl ?_); refine Kd.R_lit (Kd.int .i64) _ 3 ?hg (N := 30) ?hd (xs := ([wrap64 ((wrap64 (a1 * (wrap64 (a0_1 + 1)))) + a2)] : List Int)) (inner := [.int .i64 (wrap64 ((wrap64 (a1 * (wrap64 (a0_1 + 1)))) + a2))]) (ok := fun _ => True) (okp := fun _ => True) ?hr ?hp (fun _ hk => hk) trivial (Below.refl _ _) (Nat.le_refl _) (by simp) ?_; (case hd => rfl); (case hg => rfl); (case hr => first | (go_simp; done) | (go_simp; rfl)); (case hp => exact (Reps.one (show Kd.M (Kd.int .i64) _ _ _ (wrap64 ((wrap64 (a1 * (wrap64 (a0_1 + 1)))) + a2)) [.int .i64 (wrap64 ((wrap64 (a1 * (wrap64 (a0_1 + 1)))) + a2))] from rfl) (Reps.none _ _))); intro v262 w16 ho17 hb hg_ hnew_; clear hg_ hnew_; (first | rw [← Ny261.out] at ho17 | (simp only [Int.reduceToNat] at ho17; rw [← Ny261.out] at ho17)); have n0_ := asd (Kd.R_below (by (with_reducible repeat (first | apply Kd.R_alloc | apply Kd.R_drewN | apply Kd.R_drew)); exact HO260.out) hb); have n1_ := asd (Kd.R_lower ho17 (below_size (by repeat (first | (with_reducible first | exact HB.out | apply below_alloc | apply pw_below_drewN | apply below_drew1 | refine below_set ?_ GE257.out) | exact HB.out)))); have n2_ := asd (blk_below (g := gb257) (o := .cells #[.int .i64 a0_0, .int .i64 a0_1, .slice A0_2 l0_2.length c0_2, .slice A0_3 l0_3.length c0_3] 25 (0, 0)) (by (with_reducible repeat (first | refine blk_drewN ?_ _ | refine blk_drew ?_ | refine blk_alloc ?_ _)); exact BK257.out) hb); have n3_ := asd (below_step (by repeat (first | (with_reducible first | exact HB.out | apply below_alloc | apply pw_below_drewN | apply below_drew1 | refine below_set ?_ GE257.out) | exact HB.out)) hb); clear HO260 BK257 HB; have HO260 := n0_; have HO263 := n1_; have BK257 := n2_; have HB := n3_; clear n0_ n1_ n2_ n3_ hb ho17; obtain ⟨Ao18, co18, eo18⟩ := Kd.R_slice HO263.out; subst eo18; have p264 : 0 ≤ (0 : Int) := (by omega); have q264 : 0 < (y261.length : Int) := of_decide_eq_true (by first | (with_reducible assumption) | assumption); obtain ⟨ad264, e264, hx264_0⟩ := Kd.at_int (Kd.R_reads' HO263.out).2.2 0 p264 q264; cases e264; have qi264 : (0 < y261.length) = True := eq_true (by omega); (try rw [show ((0 : Int)).toNat = 0 from rfl] at hx264_0); (try rw [Addr.add_zero'] at hx264_0); replace p264 := eq_true p264; replace q264 := eq_true q264; have p10 : 0 ≤ ((rd y261 0) : Int) := of_decide_eq_true (by first | (with_reducible assumption) | assumption); have q10 : ((rd y261 0) : Int) < ((y258.length : Int) : Int) := of_decide_eq_true (by first | (with_reducible assumption) | assumption); obtain ⟨go10, co10, eo10, gb10, gl10, cl10, HG10⟩ := Kd.R_form HO260.out (by omega); (first | cases eo10 | (injection eo10 with ea_ en_ ec_; (first | subst ea_ | (injection ea_ with ea_; subst ea_)); subst ec_; clear en_)); have GB10 := asd gb10; have GG10 := asd HG10; clear gb10 gl10 HG10; obtain ⟨hx10_0, hf10_0⟩ := Kd.R_celln false HO260.out ((rd y261 0) : Int) p10 q10; replace p10 := eq_true p10; replace q10 := eq_true q10; obtain ⟨hy19_, hz19_⟩ := Kd.R_celln false HO260.out ((rd y261 0) : Int) (of_decide_eq_true (by first | (with_reducible assumption) | assumption)) (of_decide_eq_true (by first | (with_reducible assumption) | assumption)); have HP19 := Kd.R_putg HO260.out ((rd y261 0) : Int) true) | ((with_reducible refine gate_store (t := 4) (p := 35) rfl ?_); refine store_event (t := 4) (p := 35) (v := ?vo_w20) (w1 := (w16.setCell ⟨go10, ((rd y261 0) : Int).toNat, none⟩ (.bool true))) ?hg ?ho ?hn ?hr ?_; (case ho => rfl); (case hg => rfl); (case hn => rfl); (case hr => first | (go_simp; done) | (go_simp; rfl)); intro w20 hw; have hg : w16.grownBy w20 (some go10) := (by rw [hw]; exact HP19.2); have hp_ : Kd.R Kd.bool 4 w20 w.heap.size (fun _ => True) (.slice (some ⟨go10, 0, none⟩) y258.length co10) y265 := (by rw [hw, Ny265.out]; exact HP19.1); clear HP19; have n0_ := asd (blk_grown (g := gb257) (o := .cells #[.int .i64 a0_0, .int .i64 a0_1, .slice A0_2 l0_2.length c0_2, .slice A0_3 l0_3.length c0_3] 25 (0, 0)) (by (with_reducible repeat (first | refine blk_drewN ?_ _ | refine blk_drew ?_ | refine blk_alloc ?_ _)); exact BK257.out) hg (Kd.R_ne HO260.out BK257.out (by decide))); have n1_ := asd (hp_); have n2_ := asd (Kd.R_over' (v := (.slice (some ⟨go10, 0, none⟩) y258.length co10)) (by (with_reducible repeat (first | apply Kd.R_alloc | apply Kd.R_drewN | apply Kd.R_drew)); exact HO263.out) (Kd.R_typed HO260.out) (by decide) hg); have n3_ := asd ((by rw [hw]; exact below_set (HB.out) GB10.out : Below w.heap.size w w20)); clear BK257 HO260 HO263 HB; have BK257 := n0_; have HO260 := n1_; have HO263 := n2_; have HB := n3_; clear n0_ n1_ n2_ n3_; clear hg hw hp_))
      go_loopg [8, 9, 10] k (fun kq v8 v9 v10 w' => ∃ (x7_1 : List Bool) (x8_1 : List Int) (x9_1 : Int) (x10_1 : Int), v9 = .int .i64 x9_1 ∧ v10 = .int .i64 x10_1 ∧ Aside0 (spec_l17Reach.l0 kq x7_1 x8_1 x9_1 x10_1 a0_0 a0_1 l0_2 l0_3 = some r) ∧ Aside0 (kq ≤ k) ∧ Aside0 (Kd.R Kd.bool 4 w' w.heap.size (fun _ => True) (.slice (some ⟨go10, 0, none⟩) y258.length co10) x7_1) ∧ Aside0 (Kd.R (Kd.int .i64) 3 w' w.heap.size (fun _ => True) v8 x8_1) ∧ Aside0 (w'.heap[gb257]? = some (.cells #[.int .i64 a0_0, .int .i64 a0_1, (.slice A0_2 l0_2.length c0_2), (.slice A0_3 l0_3.length c0_3)] 25 (0, 0))) ∧ Aside0 (Below w.heap.size w w'))
      case atStart => exact ⟨(y265), (y261), (0), (0), (by first | rfl | (simp; done) | (simp [*]; done)), (by first | rfl | (simp; done) | (simp [*]; done)), H', ⟨Nat.le_refl _⟩, ⟨by (with_reducible repeat (first | apply Kd.R_alloc | apply Kd.R_drewN | apply Kd.R_drew)); exact HO260.out⟩, ⟨by (with_reducible repeat (first | apply Kd.R_alloc | apply Kd.R_drewN | apply Kd.R_drew)); exact HO263.out⟩, ⟨by (with_reducible repeat (first | refine blk_drewN ?_ _ | refine blk_drew ?_ | refine blk_alloc ?_ _)); exact BK257.out⟩, ⟨by repeat (first | (with_reducible first | exact HB.out | apply below_alloc | apply pw_below_drewN | apply below_drew1 | refine below_set ?_ GE257.out) | exact HB.out)⟩⟩
      case round =>
       clear H'; try clear p1; try clear q1; try clear hx1; try clear p2; try clear q2; try clear hx2; try clear qi2; try clear c5b0; try clear c5b1; try clear c6b0; try clear c6b1; try clear p6; try clear c7b0; try clear c7b1; try clear c8b0; try clear c9b0; try clear p10; try clear q10; try clear hx10; try clear hf10; try clear hcz12_0; try clear hcz12_1; try clear hcz12_2; try clear hcz12_3; try clear hcz15_0; try clear hcz15_1; try clear hcz15_2; try clear hcz15_3; try clear hfz12_0; try clear hfz12_1; try clear hfz12_2; try clear hfz12_3; try clear hfz15_0; try clear hfz15_1; try clear hfz15_2; try clear hfz15_3; try clear hx10_0; try clear hx264_0; try clear p264; try clear q264
       obtain ⟨x7_1, x8_1, x9_1, x10_1, rfl, rfl, HA, HK1, HO_7, HO_8, BK257, HB⟩ := hrel
       have hl7_1 := (Kd.R_reads' HO_7.out).1
       rw [hl7_1] at HO_7
       (try simp only [hl7_1])
       (try simp only [hl7_1] at BK257)
       (try simp only [hl7_1] at HO_8)
       cases gk with
       | zero => exact absurd HA.out (by simp [spec_l17Reach.l0])
       | succ k1 =>
        have H := HA.out
        clear HA
        simp only [spec_l17Reach.l0] at H
        by_cases c21 : x10_1 < (x8_1.length : Int)
        ·rw [if_pos c21] at H
         have c21b0 : decide (x10_1 < (x8_1.length : Int)) = true := decide_eq_true c21
         clear c21
         by_cases c22 : 0 ≤ x10_1
         ·rw [if_pos c22] at H
          have c22b0 : decide (0 ≤ x10_1) = true := decide_eq_true c22
          clear c22
          by_cases c23 : (wrap64 (a0_1 + 1)) = 0
          ·rw [if_pos c23] at H
           exact absurd H (by simp)
          ·rw [if_neg c23] at H
           have c23b0 : ((wrap64 (a0_1 + 1)) == 0) = false := beq_eq_false_iff_ne.mpr c23
           have c23b1 : ((wrap64 (a0_1 + 1)) != 0) = true := bne_iff_ne.mpr c23
           replace H := Option.bind_eq_some_iff.mp H
           obtain ⟨t268, A240, H⟩ := H
           replace H : ((some (([] : List Int) : List Int)).bind fun y269 => (if (Int.tmod (rd x8_1 x10_1) (wrap64 (a0_1 + 1))) < a0_1 then (if 0 ≤ (wrap64 (Int.tdiv (rd x8_1 x10_1) (wrap64 (a0_1 + 1)))) then (if (wrap64 (Int.tdiv (rd x8_1 x10_1) (wrap64 (a0_1 + 1)))) < (l0_2.length : Int) then (if 0 ≤ (Int.tmod (rd x8_1 x10_1) (wrap64 (a0_1 + 1))) then (if (Int.tmod (rd x8_1 x10_1) (wrap64 (a0_1 + 1))) < ((rd_L1 l0_2 (wrap64 (Int.tdiv (rd x8_1 x10_1) (wrap64 (a0_1 + 1))))).length : Int) then (spec_l17Reach.j1 k1 x7_1 x8_1 (wrap64 (x9_1 + t268)) x10_1 (wrap64 (Int.tdiv (rd x8_1 x10_1) (wrap64 (a0_1 + 1)))) (Int.tmod (rd x8_1 x10_1) (wrap64 (a0_1 + 1))) y269 (rdOf false (rd_L1 l0_2 (wrap64 (Int.tdiv (rd x8_1 x10_1) (wrap64 (a0_1 + 1))))) (Int.tmod (rd x8_1 x10_1) (wrap64 (a0_1 + 1)))) a0_0 a0_1 l0_2 l0_3) else (none)) else (none)) else (none)) else (none)) else (spec_l17Reach.j1 k1 x7_1 x8_1 (wrap64 (x9_1 + t268)) x10_1 (wrap64 (Int.tdiv (rd x8_1 x10_1) (wrap64 (a0_1 + 1)))) (Int.tmod (rd x8_1 x10_1) (wrap64 (a0_1 + 1))) y269 false a0_0 a0_1 l0_2 l0_3))) = some r := H
           have A24 := asd A240
           clear A240
           obtain ⟨y269, hy269⟩ : ∃ y_ : List Int, y_ = (([] : List Int)) := ⟨_, rfl⟩
           replace H : (if (Int.tmod (rd x8_1 x10_1) (wrap64 (a0_1 + 1))) < a0_1 then (if 0 ≤ (wrap64 (Int.tdiv (rd x8_1 x10_1) (wrap64 (a0_1 + 1)))) then (if (wrap64 (Int.tdiv (rd x8_1 x10_1) (wrap64 (a0_1 + 1)))) < (l0_2.length : Int) then (if 0 ≤ (Int.tmod (rd x8_1 x10_1) (wrap64 (a0_1 + 1))) then (if (Int.tmod (rd x8_1 x10_1) (wrap64 (a0_1 + 1))) < ((rd_L1 l0_2 (wrap64 (Int.tdiv (rd x8_1 x10_1) (wrap64 (a0_1 + 1))))).length : Int) then (spec_l17Reach.j1 k1 x7_1 x8_1 (wrap64 (x9_1 + t268)) x10_1 (wrap64 (Int.tdiv (rd x8_1 x10_1) (wrap64 (a0_1 + 1)))) (Int.tmod (rd x8_1 x10_1) (wrap64 (a0_1 + 1))) y269 (rdOf false (rd_L1 l0_2 (wrap64 (Int.tdiv (rd x8_1 x10_1) (wrap64 (a0_1 + 1))))) (Int.tmod (rd x8_1 x10_1) (wrap64 (a0_1 + 1)))) a0_0 a0_1 l0_2 l0_3) else (none)) else (none)) else (none)) else (none)) else (spec_l17Reach.j1 k1 x7_1 x8_1 (wrap64 (x9_1 + t268)) x10_1 (wrap64 (Int.tdiv (rd x8_1 x10_1) (wrap64 (a0_1 + 1)))) (Int.tmod (rd x8_1 x10_1) (wrap64 (a0_1 + 1))) y269 false a0_0 a0_1 l0_2 l0_3)) = some r := by first | (rw [hy269]; with_reducible exact H) | (have H2_ := (Option.bind_some _ _).symm.trans H; rw [hy269]; with_reducible exact H2_) | (have H2_ := (Option.bind_some _ _).symm.trans H; with_reducible exact H2_) | with_reducible exact H | (rw [hy269]; exact H) | exact H
           have Ny269 := asd hy269
           clear hy269
           have HC25 := asd H
           clear H
           obtain ⟨Ao26, co26, eo26⟩ := Kd.R_slice HO_8.out
           subst eo26
           try go_wp2
           have n0_ := asd (Kd.R_drew HO_7.out)
           have n1_ := asd (Kd.R_drew HO_8.out)
           have n2_ := asd (blk_drew BK257.out)
           have n3_ := asd (below_drew1 HB.out)
           clear HO_7 HO_8 BK257 HB
           have HO_7 := n0_
           have HO_8 := n1_
           have BK257 := n2_
           have HB := n3_
           clear n0_ n1_ n2_ n3_
           have p266 : 0 ≤ (x10_1 : Int) := of_decide_eq_true (by first | (with_reducible assumption) | assumption)
           have q266 : x10_1 < (x8_1.length : Int) := of_decide_eq_true (by first | (with_reducible assumption) | assumption)
           obtain ⟨ad266, e266, hx266_0⟩ := Kd.at_int (Kd.R_reads' HO_8.out).2.2 x10_1 p266 q266
           cases e266
           replace p266 := eq_true p266
           replace q266 := eq_true q266
           refine start_ (n := 9) (S := fun w' => w'.cell? ⟨gb257, 0, none⟩ = some (.int .i64 a0_0) ∧ w'.cell? ⟨gb257, 1, none⟩ = some (.int .i64 a0_1) ∧ w'.cell? ⟨gb257, 2, none⟩ = some (.slice A0_2 l0_2.length c0_2) ∧ w'.cell? ⟨gb257, 3, none⟩ = some (.slice A0_3 l0_3.length c0_3) ∧ w'.cell? (ad266.add (x10_1).toNat) = some (.int .i64 (rd x8_1 x10_1))) (ds := []) #[false, false, false, false, false, false, false, false, false] (by kernel_rfl) rfl rfl ⟨(blk_cell BK257.out 0).trans rfl, (blk_cell BK257.out 1).trans rfl, (blk_cell BK257.out 2).trans rfl, (blk_cell BK257.out 3).trans rfl, hx266_0⟩ (fun hHeld => ?_); refine with_tabW spec_l17Reach.tab8 spec_l17Reach.bits8 (fun HT_ HW_ => ?_)
           generalize wr.drew = w27 at HO_7 HO_8 BK257 HB hx266_0 hHeld ⊢
           refine pure_ (i := 0) (N := some 42) (v := ?_) (a' := ?_) #[true, false, false, false, false, false, false, false, false] rfl rfl (any_of HT_.out (by kernel_rfl)) (fun _ _ _ h => h) (Or.inl ⟨by rfl, ?_⟩) ?_ ?_
           rotate_left
           ·intro w'
            go_simp
            with_reducible rfl
           rotate_left
           ·simp only [Act.put, List.setIfInBounds_toArray, List.set_cons_zero, List.set_cons_succ, i64_w, i32_w]
            rfl
           refine pure_ (i := 1) (N := some 43) (v := ?_) (a' := ?_) #[true, true, false, false, false, false, false, false, false] rfl rfl (any_of HT_.out (by kernel_rfl)) (fun _ _ _ h => h) (Or.inl ⟨by rfl, ?_⟩) ?_ ?_
           rotate_left
           ·intro w'
            go_simp
            with_reducible rfl
           rotate_left
           ·simp only [Act.put, List.setIfInBounds_toArray, List.set_cons_zero, List.set_cons_succ, i64_w, i32_w]
            rfl
           refine pure_ (i := 2) (N := some 44) (v := ?_) (a' := ?_) #[true, true, true, false, false, false, false, false, false] rfl rfl (any_of HT_.out (by kernel_rfl)) (fun _ _ _ h => h) (Or.inl ⟨by rfl, ?_⟩) ?_ ?_
           rotate_left
           ·intro w'
            go_simp
            with_reducible rfl
           rotate_left
           ·simp only [Act.put, List.setIfInBounds_toArray, List.set_cons_zero, List.set_cons_succ, i64_w, i32_w]
            rfl
           refine pure_ (i := 4) (N := some 46) (v := ?_) (a' := ?_) #[true, true, true, false, true, false, false, false, false] rfl rfl (any_of HT_.out (by kernel_rfl)) (fun _ _ _ h => h) (Or.inl ⟨by rfl, ?_⟩) ?_ ?_
           rotate_left
           ·intro w'
            go_simp
            with_reducible rfl
           rotate_left
           ·simp only [Act.put, List.setIfInBounds_toArray, List.set_cons_zero, List.set_cons_succ, i64_w, i32_w]
            rfl
           refine take_ (i := 3) (N := some 45) (v := ?_) (a' := ?_) #[true, true, true, true, true, false, false, false, false] rfl rfl (take_ofW HT_.out HW_.out (by kernel_rfl)) (fun _ _ _ h => h) (Or.inl ⟨by rfl, ?_⟩) hHeld ?_ ?_
           rotate_left
           ·rintro w' ⟨s0, s1, s2, s3, s4⟩
            go_simp
            with_reducible rfl
           rotate_left
           ·simp only [Act.put, List.setIfInBounds_toArray, List.set_cons_zero, List.set_cons_succ, i64_w, i32_w]
            rfl
           refine take_ (i := 5) (N := some 47) (v := ?_) (a' := ?_) #[true, true, true, true, true, true, false, false, false] rfl rfl (take_ofW HT_.out HW_.out (by kernel_rfl)) (fun _ _ _ h => h) (Or.inl ⟨by rfl, ?_⟩) hHeld ?_ ?_
           rotate_left
           ·rintro w' ⟨s0, s1, s2, s3, s4⟩
            go_simp
            with_reducible rfl
           rotate_left
           ·simp only [Act.put, List.setIfInBounds_toArray, List.set_cons_zero, List.set_cons_succ, i64_w, i32_w]
            rfl
           refine pure_ (i := 6) (N := some 48) (v := ?_) (a' := ?_) #[true, true, true, true, true, true, true, false, false] rfl rfl (any_of HT_.out (by kernel_rfl)) (fun _ _ _ h => h) (Or.inl ⟨by rfl, ?_⟩) ?_ ?_
           rotate_left
           ·intro w'
            go_simp
            with_reducible rfl
           rotate_left
           ·simp only [Act.put, List.setIfInBounds_toArray, List.set_cons_zero, List.set_cons_succ, i64_w, i32_w]
            rfl
           refine pure_ (i := 7) (N := some 49) (v := ?_) (a' := ?_) #[true, true, true, true, true, true, true, true, false] rfl rfl (any_of HT_.out (by kernel_rfl)) (fun _ _ _ h => h) (Or.inl ⟨by rfl, ?_⟩) ?_ ?_
           rotate_left
           ·intro w'
            go_simp
            with_reducible rfl
           rotate_left
           ·simp only [Act.put, List.setIfInBounds_toArray, List.set_cons_zero, List.set_cons_succ, i64_w, i32_w]
            rfl
           refine pure_ (i := 8) (N := some 11) (v := ?_) (a' := ?_) #[true, true, true, true, true, true, true, true, true] rfl rfl (any_of HT_.out (by kernel_rfl)) (fun _ _ _ h => h) (Or.inl ⟨by rfl, ?_⟩) ?_ ?_
           rotate_left
           ·intro w'
            go_simp
            with_reducible rfl
           rotate_left
           ·simp only [Act.put, List.setIfInBounds_toArray, List.set_cons_zero, List.set_cons_succ, i64_w, i32_w]
            rfl
           refine done_ (done_of HT_.out (by kernel_rfl)) ?_
           try go_wp2
           have n0_ := asd (Kd.R_drew HO_7.out)
           have n1_ := asd (Kd.R_drew HO_8.out)
           have n2_ := asd (blk_drew BK257.out)
           have n3_ := asd (below_drew1 HB.out)
           clear HO_7 HO_8 BK257 HB
           have HO_7 := n0_
           have HO_8 := n1_
           have BK257 := n2_
           have HB := n3_
           clear n0_ n1_ n2_ n3_
           have p267 : 0 ≤ (x10_1 : Int) := of_decide_eq_true (by first | (with_reducible assumption) | assumption)
           have q267 : x10_1 < (x8_1.length : Int) := of_decide_eq_true (by first | (with_reducible assumption) | assumption)
           obtain ⟨ad267, e267, hx267_0⟩ := Kd.at_int (Kd.R_reads' HO_8.out).2.2 x10_1 p267 q267
           obtain rfl : ad266 = ad267 := (by injection e267)
           replace p267 := eq_true p267
           replace q267 := eq_true q267
           refine start_ (n := 9) (S := fun w' => w'.cell? ⟨gb257, 0, none⟩ = some (.int .i64 a0_0) ∧ w'.cell? ⟨gb257, 1, none⟩ = some (.int .i64 a0_1) ∧ w'.cell? ⟨gb257, 2, none⟩ = some (.slice A0_2 l0_2.length c0_2) ∧ w'.cell? ⟨gb257, 3, none⟩ = some (.slice A0_3 l0_3.length c0_3) ∧ w'.cell? (ad266.add (x10_1).toNat) = some (.int .i64 (rd x8_1 x10_1))) (ds := []) #[false, false, false, false, false, false, false, false, false] (by kernel_rfl) rfl rfl ⟨(blk_cell BK257.out 0).trans rfl, (blk_cell BK257.out 1).trans rfl, (blk_cell BK257.out 2).trans rfl, (blk_cell BK257.out 3).trans rfl, hx267_0⟩ (fun hHeld => ?_); refine with_tabW spec_l17Reach.tab9 spec_l17Reach.bits9 (fun HT_ HW_ => ?_)
           generalize w27.drew = w28 at HO_7 HO_8 BK257 HB hx267_0 hHeld ⊢
           refine pure_ (i := 0) (N := some 50) (v := ?_) (a' := ?_) #[true, false, false, false, false, false, false, false, false] rfl rfl (any_of HT_.out (by kernel_rfl)) (fun _ _ _ h => h) (Or.inl ⟨by rfl, ?_⟩) ?_ ?_
           rotate_left
           ·intro w'
            go_simp
            with_reducible rfl
           rotate_left
           ·simp only [Act.put, List.setIfInBounds_toArray, List.set_cons_zero, List.set_cons_succ, i64_w, i32_w]
            rfl
           refine pure_ (i := 1) (N := some 51) (v := ?_) (a' := ?_) #[true, true, false, false, false, false, false, false, false] rfl rfl (any_of HT_.out (by kernel_rfl)) (fun _ _ _ h => h) (Or.inl ⟨by rfl, ?_⟩) ?_ ?_
           rotate_left
           ·intro w'
            go_simp
            with_reducible rfl
           rotate_left
           ·simp only [Act.put, List.setIfInBounds_toArray, List.set_cons_zero, List.set_cons_succ, i64_w, i32_w]
            rfl
           refine pure_ (i := 2) (N := some 52) (v := ?_) (a' := ?_) #[true, true, true, false, false, false, false, false, false] rfl rfl (any_of HT_.out (by kernel_rfl)) (fun _ _ _ h => h) (Or.inl ⟨by rfl, ?_⟩) ?_ ?_
           rotate_left
           ·intro w'
            go_simp
            with_reducible rfl
           rotate_left
           ·simp only [Act.put, List.setIfInBounds_toArray, List.set_cons_zero, List.set_cons_succ, i64_w, i32_w]
            rfl
           refine pure_ (i := 4) (N := some 54) (v := ?_) (a' := ?_) #[true, true, true, false, true, false, false, false, false] rfl rfl (any_of HT_.out (by kernel_rfl)) (fun _ _ _ h => h) (Or.inl ⟨by rfl, ?_⟩) ?_ ?_
           rotate_left
           ·intro w'
            go_simp
            with_reducible rfl
           rotate_left
           ·simp only [Act.put, List.setIfInBounds_toArray, List.set_cons_zero, List.set_cons_succ, i64_w, i32_w]
            rfl
           refine take_ (i := 3) (N := some 53) (v := ?_) (a' := ?_) #[true, true, true, true, true, false, false, false, false] rfl rfl (take_ofW HT_.out HW_.out (by kernel_rfl)) (fun _ _ _ h => h) (Or.inl ⟨by rfl, ?_⟩) hHeld ?_ ?_
           rotate_left
           ·rintro w' ⟨s0, s1, s2, s3, s4⟩
            go_simp
            with_reducible rfl
           rotate_left
           ·simp only [Act.put, List.setIfInBounds_toArray, List.set_cons_zero, List.set_cons_succ, i64_w, i32_w]
            rfl
           refine take_ (i := 5) (N := some 55) (v := ?_) (a' := ?_) #[true, true, true, true, true, true, false, false, false] rfl rfl (take_ofW HT_.out HW_.out (by kernel_rfl)) (fun _ _ _ h => h) (Or.inl ⟨by rfl, ?_⟩) hHeld ?_ ?_
           rotate_left
           ·rintro w' ⟨s0, s1, s2, s3, s4⟩
            go_simp
            with_reducible rfl
           rotate_left
           ·simp only [Act.put, List.setIfInBounds_toArray, List.set_cons_zero, List.set_cons_succ, i64_w, i32_w]
            rfl
           refine pure_ (i := 6) (N := some 56) (v := ?_) (a' := ?_) #[true, true, true, true, true, true, true, false, false] rfl rfl (any_of HT_.out (by kernel_rfl)) (fun _ _ _ h => h) (Or.inl ⟨by rfl, ?_⟩) ?_ ?_
           rotate_left
           ·intro w'
            go_simp
            with_reducible rfl
           rotate_left
           ·simp only [Act.put, List.setIfInBounds_toArray, List.set_cons_zero, List.set_cons_succ, i64_w, i32_w]
            rfl
           refine pure_ (i := 7) (N := some 57) (v := ?_) (a' := ?_) #[true, true, true, true, true, true, true, true, false] rfl rfl (any_of HT_.out (by kernel_rfl)) (fun _ _ _ h => h) (Or.inl ⟨by rfl, ?_⟩) ?_ ?_
           rotate_left
           ·intro w'
            go_simp
            with_reducible rfl
           rotate_left
           ·simp only [Act.put, List.setIfInBounds_toArray, List.set_cons_zero, List.set_cons_succ, i64_w, i32_w]
            rfl
           refine pure_ (i := 8) (N := some 12) (v := ?_) (a' := ?_) #[true, true, true, true, true, true, true, true, true] rfl rfl (any_of HT_.out (by kernel_rfl)) (fun _ _ _ h => h) (Or.inl ⟨by rfl, ?_⟩) ?_ ?_
           rotate_left
           ·intro w'
            go_simp
            with_reducible rfl
           rotate_left
           ·simp only [Act.put, List.setIfInBounds_toArray, List.set_cons_zero, List.set_cons_succ, i64_w, i32_w]
            rfl
           refine done_ (done_of HT_.out (by kernel_rfl)) ?_
           have hcz29_0 : w28.cell? ⟨gb257, 0, none⟩ = some (.int .i64 a0_0) := (blk_cell BK257.out 0).trans rfl
           have hcz29_1 : w28.cell? ⟨gb257, 1, none⟩ = some (.int .i64 a0_1) := (blk_cell BK257.out 1).trans rfl
           have hcz29_2 : w28.cell? ⟨gb257, 2, none⟩ = some (.slice A0_2 l0_2.length c0_2) := (blk_cell BK257.out 2).trans rfl
           have hcz29_3 : w28.cell? ⟨gb257, 3, none⟩ = some (.slice A0_3 l0_3.length c0_3) := (blk_cell BK257.out 3).trans rfl
           have hfz29_0 := blk_frozen BK257.out 0
           have hfz29_1 := blk_frozen BK257.out 1
           have hfz29_2 := blk_frozen BK257.out 2
           have hfz29_3 := blk_frozen BK257.out 3
           go_upto_region 12 with (first | ((with_reducible refine gate_callee (f := 63) rfl ?_); refine goesL_ (some 62) rfl rfl Try.func63 (by kernel_rfl) rfl #[.agg #[.int .i64 a0_0, .int .i64 a0_1, .slice A0_2 l0_2.length c0_2, .slice A0_3 l0_3.length c0_3], .int .i64 (wrap64 (Int.tdiv (rd x8_1 x10_1) (wrap64 (a0_1 + 1)))), .int .i64 (Int.tmod (rd x8_1 x10_1) (wrap64 (a0_1 + 1)))] rfl (by (try simp only [List.map_toArray, List.map_cons, List.map_nil]); first | done | rfl | (simp only [List.length_drop, List.length_take]; rfl)) ?_; (with_reducible refine (spec_l17Degree.calls k1 a0_0 a0_1 _ _ l0_2 _ _ l0_3 (wrap64 (Int.tdiv (rd x8_1 x10_1) (wrap64 (a0_1 + 1)))) (Int.tmod (rd x8_1 x10_1) (wrap64 (a0_1 + 1))) t268 _ ?side1 ?side2 ?side3 ?side4 A24.out).mono ?_); (case side1 => repeat (first | exact (Kd.C_below HR0_2.out HB.out) | (with_reducible refine Kd.C_alloc ?_ _) | (with_reducible refine Kd.C_drewN ?_ _) | (with_reducible refine Kd.C_drew ?_))); (case side2 => exact HC0_2.out); (case side3 => repeat (first | exact (Kd.C_below HR0_3.out HB.out) | (with_reducible refine Kd.C_alloc ?_ _) | (with_reducible refine Kd.C_drewN ?_ _) | (with_reducible refine Kd.C_drew ?_))); (case side4 => exact HC0_3.out); rintro e w30 ⟨rfl, hb⟩; refine ⟨_, rfl, ?_⟩; have n0_ := asd (Kd.R_below (by (with_reducible repeat (first | apply Kd.R_alloc | apply Kd.R_drewN | apply Kd.R_drew)); exact HO_7.out) hb); have n1_ := asd (Kd.R_below (by (with_reducible repeat (first | apply Kd.R_alloc | apply Kd.R_drewN | apply Kd.R_drew)); exact HO_8.out) hb); have n2_ := asd (blk_below (g := gb257) (o := .cells #[.int .i64 a0_0, .int .i64 a0_1, .slice A0_2 l0_2.length c0_2, .slice A0_3 l0_3.length c0_3] 25 (0, 0)) (by (with_reducible repeat (first | refine blk_drewN ?_ _ | refine blk_drew ?_ | refine blk_alloc ?_ _)); exact BK257.out) hb); have n3_ := asd (below_step (by repeat (first | (with_reducible first | exact HB.out | apply below_alloc | apply pw_below_drewN | apply below_drew1 | refine below_set ?_ GE257.out) | exact HB.out)) hb); clear HO_7 HO_8 BK257 HB; have HO_7 := n0_; have HO_8 := n1_; have BK257 := n2_; have HB := n3_; clear n0_ n1_ n2_ n3_) | ((with_reducible refine gate_dst (N := 64) rfl ?_); refine Kd.R_lit (Kd.int .i64) _ 3 ?hg (N := 64) ?hd (xs := ([] : List Int)) (inner := []) (ok := fun _ => True) (okp := fun _ => True) ?hr ?hp (fun _ hk => hk) trivial (Below.refl _ _) (Nat.le_refl _) (by simp) ?_; (case hd => rfl); (case hg => rfl); (case hr => first | (go_simp; done) | (go_simp; rfl)); (case hp => exact (Reps.none _ _)); intro v270 w31 ho32 hb hg_ hnew_; clear hg_ hnew_; (first | rw [← Ny269.out] at ho32 | (simp only [Int.reduceToNat] at ho32; rw [← Ny269.out] at ho32)); have n0_ := asd (Kd.R_below (by (with_reducible repeat (first | apply Kd.R_alloc | apply Kd.R_drewN | apply Kd.R_drew)); exact HO_7.out) hb); have n1_ := asd (Kd.R_elder' (by (with_reducible repeat (first | apply Kd.R_alloc | apply Kd.R_drewN | apply Kd.R_drew)); exact HO_8.out) (Kd.R_base ho32) hb); have n2_ := asd (Kd.R_lower (Kd.R_new' ho32 (Kd.R_lt (by (with_reducible repeat (first | apply Kd.R_alloc | apply Kd.R_drewN | apply Kd.R_drew)); exact HO_8.out))) (below_size (by repeat (first | (with_reducible first | exact HB.out | apply below_alloc | apply pw_below_drewN | apply below_drew1 | refine below_set ?_ GE257.out) | exact HB.out)))); have n3_ := asd (blk_below (g := gb257) (o := .cells #[.int .i64 a0_0, .int .i64 a0_1, .slice A0_2 l0_2.length c0_2, .slice A0_3 l0_3.length c0_3] 25 (0, 0)) (by (with_reducible repeat (first | refine blk_drewN ?_ _ | refine blk_drew ?_ | refine blk_alloc ?_ _)); exact BK257.out) hb); have n4_ := asd (below_step (by repeat (first | (with_reducible first | exact HB.out | apply below_alloc | apply pw_below_drewN | apply below_drew1 | refine below_set ?_ GE257.out) | exact HB.out)) hb); clear HO_7 HO_8 BK257 HB; have HO_7 := n0_; have HO_8 := n1_; have HO271 := n2_; have BK257 := n3_; have HB := n4_; clear n0_ n1_ n2_ n3_ n4_; clear hb ho32))
           (try simp only [Act.put, List.setIfInBounds_toArray, List.set_cons_zero, List.set_cons_succ])
           go_cut [78] (fun v78 wc => ∃ (kq : Nat) (x78_24 : Bool), v78 = .bool x78_24 ∧ Aside0 (spec_l17Reach.j1 kq x7_1 x8_1 (wrap64 (x9_1 + t268)) x10_1 (wrap64 (Int.tdiv (rd x8_1 x10_1) (wrap64 (a0_1 + 1)))) (Int.tmod (rd x8_1 x10_1) (wrap64 (a0_1 + 1))) y269 x78_24 a0_0 a0_1 l0_2 l0_3 = some r) ∧ Aside0 (kq ≤ k1) ∧ Aside0 (Kd.R Kd.bool 4 wc w.heap.size (fun _ => True) (.slice (some ⟨go10, 0, none⟩) x7_1.length co10) x7_1) ∧ Aside0 (Kd.R (Kd.int .i64) 3 wc w.heap.size (fun k_ => some k_ ≠ (v270 : Value).ownBlock) (.slice (some ad266) x8_1.length co26) x8_1) ∧ Aside0 (Kd.R (Kd.int .i64) 3 wc w.heap.size (fun k_ => some k_ ≠ ((.slice (some ad266) x8_1.length co26) : Value).ownBlock) v270 y269) ∧ Aside0 (wc.heap[gb257]? = some (.cells #[.int .i64 a0_0, .int .i64 a0_1, (.slice A0_2 l0_2.length c0_2), (.slice A0_3 l0_3.length c0_3)] 25 (0, 0))) ∧ Aside0 (Below w.heap.size w wc))
           case first =>
            have H := HC25.out
            clear HC25
            by_cases c33 : (Int.tmod (rd x8_1 x10_1) (wrap64 (a0_1 + 1))) < a0_1
            ·rw [if_pos c33] at H
             have c33b0 : decide ((Int.tmod (rd x8_1 x10_1) (wrap64 (a0_1 + 1))) < a0_1) = true := decide_eq_true c33
             clear c33
             (first | rw [c33b0] | (simp only [i64_w, i32_w]; rw [c33b0]) | skip)
             obtain ⟨ji34, hji34⟩ : ∃ j_ : Int, (wrap64 (Int.tdiv (rd x8_1 x10_1) (wrap64 (a0_1 + 1)))) = j_ := ⟨_, rfl⟩
             replace H : (if 0 ≤ (ji34) then (if (ji34) < (l0_2.length : Int) then (if 0 ≤ (Int.tmod (rd x8_1 x10_1) (wrap64 (a0_1 + 1))) then (if (Int.tmod (rd x8_1 x10_1) (wrap64 (a0_1 + 1))) < ((rd_L1 l0_2 (ji34)).length : Int) then (spec_l17Reach.j1 k1 x7_1 x8_1 (wrap64 (x9_1 + t268)) x10_1 ji34 (Int.tmod (rd x8_1 x10_1) (wrap64 (a0_1 + 1))) y269 (rdOf false (rd_L1 l0_2 (ji34)) (Int.tmod (rd x8_1 x10_1) (wrap64 (a0_1 + 1)))) a0_0 a0_1 l0_2 l0_3) else (none)) else (none)) else (none)) else (none)) = some r := by first | (rw [hji34] at H; exact H) | (simp only [hji34] at H ⊢; exact H)
             have hji34w : (IntKind.i64.wrap (Int.tdiv (rd x8_1 x10_1) (wrap64 (a0_1 + 1)))) = ji34 := (i64_w _).trans hji34
             by_cases c35 : 0 ≤ (ji34)
             ·rw [if_pos c35] at H
              have c35b0 : decide (0 ≤ (ji34)) = true := decide_eq_true c35
              clear c35
              by_cases c36 : (ji34) < (l0_2.length : Int)
              ·rw [if_pos c36] at H
               have c36b0 : decide ((ji34) < (l0_2.length : Int)) = true := decide_eq_true c36
               clear c36
               obtain ⟨ji37, hji37⟩ : ∃ j_ : Int, (Int.tmod (rd x8_1 x10_1) (wrap64 (a0_1 + 1))) = j_ := ⟨_, rfl⟩
               replace H : (if 0 ≤ (ji37) then (if (ji37) < ((rd_L1 l0_2 (ji34)).length : Int) then (spec_l17Reach.j1 k1 x7_1 x8_1 (wrap64 (x9_1 + t268)) x10_1 ji34 ji37 y269 (rdOf false (rd_L1 l0_2 (ji34)) (ji37)) a0_0 a0_1 l0_2 l0_3) else (none)) else (none)) = some r := by first | (rw [hji37] at H; exact H) | (simp only [hji37] at H ⊢; exact H)
               (try rw [hji37] at c33b0)
               by_cases c38 : 0 ≤ (ji37)
               ·rw [if_pos c38] at H
                have c38b0 : decide (0 ≤ (ji37)) = true := decide_eq_true c38
                clear c38
                by_cases c39 : (ji37) < ((rd_L1 l0_2 (ji34)).length : Int)
                ·rw [if_pos c39] at H
                 have c39b0 : decide ((ji37) < ((rd_L1 l0_2 (ji34)).length : Int)) = true := decide_eq_true c39
                 clear c39
                 have H' := asd H
                 clear H
                 have hcz40_0 : w31.cell? ⟨gb257, 0, none⟩ = some (.int .i64 a0_0) := (blk_cell BK257.out 0).trans rfl
                 have hcz40_1 : w31.cell? ⟨gb257, 1, none⟩ = some (.int .i64 a0_1) := (blk_cell BK257.out 1).trans rfl
                 have hcz40_2 : w31.cell? ⟨gb257, 2, none⟩ = some (.slice A0_2 l0_2.length c0_2) := (blk_cell BK257.out 2).trans rfl
                 have hcz40_3 : w31.cell? ⟨gb257, 3, none⟩ = some (.slice A0_3 l0_3.length c0_3) := (blk_cell BK257.out 3).trans rfl
                 have hfz40_0 := blk_frozen BK257.out 0
                 have hfz40_1 := blk_frozen BK257.out 1
                 have hfz40_2 := blk_frozen BK257.out 2
                 have hfz40_3 := blk_frozen BK257.out 3
                 have p272 : 0 ≤ ((ji34) : Int) := of_decide_eq_true (by first | (with_reducible assumption) | assumption)
                 have q272 : (ji34) < (l0_2.length : Int) := of_decide_eq_true (by first | (with_reducible assumption) | assumption)
                 obtain ⟨ad272, A272_0, c272_0, e272, hx272_0, hl272_0, hi272_0⟩ := at_L1 HR0_2.out (ji34) p272 q272
                 cases e272
                 replace hx272_0 := (HB.out.cell (World.block_lt_of_cell? w _ hx272_0)).trans hx272_0
                 have HR272_0 := asd hi272_0
                 have HC272_0 := asd hl272_0
                 clear hi272_0 hl272_0
                 replace p272 := eq_true p272
                 replace q272 := eq_true q272
                 have p273 : 0 ≤ ((ji37) : Int) := of_decide_eq_true (by first | (with_reducible assumption) | assumption)
                 have q273 : (ji37) < ((rd_L1 l0_2 (ji34)).length : Int) := of_decide_eq_true (by first | (with_reducible assumption) | assumption)
                 obtain ⟨ad273, e273, hx273_0⟩ := Kd.at_bool HR272_0.out (ji37) p273 q273
                 cases e273
                 replace hx273_0 := (HB.out.cell (World.block_lt_of_cell? w _ hx273_0)).trans hx273_0
                 replace p273 := eq_true p273
                 replace q273 := eq_true q273
                 go_wp2
                 (try subst hji34); (try subst hji37)
                 go_meet
                 case rel => exact ⟨_, (rdOf false (rd_L1 l0_2 ((wrap64 (Int.tdiv (rd x8_1 x10_1) (wrap64 (a0_1 + 1)))))) ((Int.tmod (rd x8_1 x10_1) (wrap64 (a0_1 + 1))))), (by first | rfl | (simp; done) | (simp [*]; done)), H', ⟨by have := HK1.out; first | omega | exact Nat.le_refl _⟩, ⟨by (try simp only [hl7_1]); (with_reducible repeat (first | apply Kd.R_alloc | apply Kd.R_drewN | apply Kd.R_drew)); exact HO_7.out⟩, ⟨by (try simp only [hl7_1]); (with_reducible repeat (first | apply Kd.R_alloc | apply Kd.R_drewN | apply Kd.R_drew)); exact Kd.R_mono HO_8.out (fun _ hk => hk.2)⟩, ⟨by (try simp only [hl7_1]); (with_reducible repeat (first | apply Kd.R_alloc | apply Kd.R_drewN | apply Kd.R_drew)); exact Kd.R_mono HO271.out (fun _ hk => hk.2)⟩, ⟨by (try simp only [hl7_1]); (with_reducible repeat (first | refine blk_drewN ?_ _ | refine blk_drew ?_ | refine blk_alloc ?_ _)); exact BK257.out⟩, ⟨by repeat (first | (with_reducible first | exact HB.out | apply below_alloc | apply pw_below_drewN | apply below_drew1 | refine below_set ?_ GE257.out) | exact HB.out)⟩⟩
                ·rw [if_neg c39] at H
                 exact absurd H (by simp)
               ·rw [if_neg c38] at H
                exact absurd H (by simp)
              ·rw [if_neg c36] at H
               exact absurd H (by simp)
             ·rw [if_neg c35] at H
              exact absurd H (by simp)
            ·rw [if_neg c33] at H
             have c33b0 : decide ((Int.tmod (rd x8_1 x10_1) (wrap64 (a0_1 + 1))) < a0_1) = false := decide_eq_false c33
             (try rw [hji37] at c33b0)
             clear c33
             (first | rw [c33b0] | (simp only [i64_w, i32_w]; rw [c33b0]) | skip)
             have H' := asd H
             clear H
             have hcz41_0 : w31.cell? ⟨gb257, 0, none⟩ = some (.int .i64 a0_0) := (blk_cell BK257.out 0).trans rfl
             have hcz41_1 : w31.cell? ⟨gb257, 1, none⟩ = some (.int .i64 a0_1) := (blk_cell BK257.out 1).trans rfl
             have hcz41_2 : w31.cell? ⟨gb257, 2, none⟩ = some (.slice A0_2 l0_2.length c0_2) := (blk_cell BK257.out 2).trans rfl
             have hcz41_3 : w31.cell? ⟨gb257, 3, none⟩ = some (.slice A0_3 l0_3.length c0_3) := (blk_cell BK257.out 3).trans rfl
             have hfz41_0 := blk_frozen BK257.out 0
             have hfz41_1 := blk_frozen BK257.out 1
             have hfz41_2 := blk_frozen BK257.out 2
             have hfz41_3 := blk_frozen BK257.out 3
             go_wp2
             go_meet
             case rel => exact ⟨_, (false), (by first | rfl | (simp; done) | (simp [*]; done)), H', ⟨by have := HK1.out; first | omega | exact Nat.le_refl _⟩, ⟨by (try simp only [hl7_1]); (with_reducible repeat (first | apply Kd.R_alloc | apply Kd.R_drewN | apply Kd.R_drew)); exact HO_7.out⟩, ⟨by (try simp only [hl7_1]); (with_reducible repeat (first | apply Kd.R_alloc | apply Kd.R_drewN | apply Kd.R_drew)); exact Kd.R_mono HO_8.out (fun _ hk => hk.2)⟩, ⟨by (try simp only [hl7_1]); (with_reducible repeat (first | apply Kd.R_alloc | apply Kd.R_drewN | apply Kd.R_drew)); exact Kd.R_mono HO271.out (fun _ hk => hk.2)⟩, ⟨by (try simp only [hl7_1]); (with_reducible repeat (first | refine blk_drewN ?_ _ | refine blk_drew ?_ | refine blk_alloc ?_ _)); exact BK257.out⟩, ⟨by repeat (first | (with_reducible first | exact HB.out | apply below_alloc | apply pw_below_drewN | apply below_drew1 | refine below_set ?_ GE257.out) | exact HB.out)⟩⟩
           case rest => as_aux_lemma =>
            clear HC25; try clear c2; try clear c3; try clear c21b0; try clear c22b0; try clear c23; try clear c23b0; try clear c23b1; try clear p26; try clear q26; try clear hx26; try clear qi26; try clear c27; try clear p27; try clear q27; try clear hx27; try clear c33; try clear c33b0; try clear c35; try clear c35b0; try clear c36; try clear c36b0; try clear c38; try clear c38b0; try clear c39; try clear c39b0; try clear hcz29_0; try clear hcz29_1; try clear hcz29_2; try clear hcz29_3; try clear hcz40_0; try clear hcz40_1; try clear hcz40_2; try clear hcz40_3; try clear hcz41_0; try clear hcz41_1; try clear hcz41_2; try clear hcz41_3; try clear hfz29_0; try clear hfz29_1; try clear hfz29_2; try clear hfz29_3; try clear hfz40_0; try clear hfz40_1; try clear hfz40_2; try clear hfz40_3; try clear hfz41_0; try clear hfz41_1; try clear hfz41_2; try clear hfz41_3; try clear hx266_0; try clear hx267_0; try clear hx272_0; try clear hx273_0; try clear p266; try clear p267; try clear p272; try clear p273; try clear q266; try clear q267; try clear q272; try clear q273
            obtain ⟨kq, x78_24, rfl, HA, HJ24, HO_7, HO_8, HO_13, BK257, HB⟩ := hcut
            cases kq with
            | zero => exact absurd HA.out (by simp [spec_l17Reach.j1])
            | succ kj24 =>
             have H := HA.out
             clear HA
             simp only [spec_l17Reach.j1] at H
             have HC42 := asd H
             clear H
             go_upto_if 78 with (fail)
             go_cut [13] (fun v13 wc => ∃ (kq : Nat) (x13_41 : List Int), Aside0 (spec_l17Reach.j2 kq x7_1 x8_1 (wrap64 (x9_1 + t268)) x10_1 (wrap64 (Int.tdiv (rd x8_1 x10_1) (wrap64 (a0_1 + 1)))) (Int.tmod (rd x8_1 x10_1) (wrap64 (a0_1 + 1))) x13_41 a0_0 a0_1 l0_2 l0_3 = some r) ∧ Aside0 (kq ≤ kj24) ∧ Aside0 (Kd.R Kd.bool 4 wc w.heap.size (fun _ => True) (.slice (some ⟨go10, 0, none⟩) x7_1.length co10) x7_1) ∧ Aside0 (Kd.R (Kd.int .i64) 3 wc w.heap.size (fun k_ => some k_ ≠ (v13 : Value).ownBlock) (.slice (some ad266) x8_1.length co26) x8_1) ∧ Aside0 (Kd.R (Kd.int .i64) 3 wc w.heap.size (fun k_ => some k_ ≠ ((.slice (some ad266) x8_1.length co26) : Value).ownBlock) v13 x13_41) ∧ Aside0 (wc.heap[gb257]? = some (.cells #[.int .i64 a0_0, .int .i64 a0_1, (.slice A0_2 l0_2.length c0_2), (.slice A0_3 l0_3.length c0_3)] 25 (0, 0))) ∧ Aside0 (Below w.heap.size w wc))
             case first =>
              have H := HC42.out
              clear HC42
              by_cases c43 : x78_24 = true
              ·subst c43
               have H1 : (if 0 ≤ x10_1 then (if x10_1 < (x8_1.length : Int) then (if y269.length < 17592186044416 then (spec_l17Reach.j2 kj24 x7_1 x8_1 (wrap64 (x9_1 + t268)) x10_1 (wrap64 (Int.tdiv (rd x8_1 x10_1) (wrap64 (a0_1 + 1)))) (Int.tmod (rd x8_1 x10_1) (wrap64 (a0_1 + 1))) (y269 ++ [wrap64 ((rd x8_1 x10_1) + 1)]) a0_0 a0_1 l0_2 l0_3) else (none)) else (none)) else (none)) = some r := by rw [if_pos rfl] at H; exact H
               clear H
               have H := H1
               clear H1
               by_cases c44 : 0 ≤ x10_1
               ·rw [if_pos c44] at H
                have c44b0 : decide (0 ≤ x10_1) = true := decide_eq_true c44
                clear c44
                (first | rw [c44b0] | (simp only [i64_w, i32_w]; rw [c44b0]) | skip)
                by_cases c45 : x10_1 < (x8_1.length : Int)
                ·rw [if_pos c45] at H
                 have c45b0 : decide (x10_1 < (x8_1.length : Int)) = true := decide_eq_true c45
                 clear c45
                 by_cases c46 : y269.length < 17592186044416
                 ·rw [if_pos c46] at H
                  have LMc46 := asd c46
                  clear c46
                  obtain ⟨y275, hy275⟩ : ∃ y_ : List Int, y_ = (y269 ++ [wrap64 ((rd x8_1 x10_1) + 1)]) := ⟨_, rfl⟩
                  replace H : (spec_l17Reach.j2 kj24 x7_1 x8_1 (wrap64 (x9_1 + t268)) x10_1 (wrap64 (Int.tdiv (rd x8_1 x10_1) (wrap64 (a0_1 + 1)))) (Int.tmod (rd x8_1 x10_1) (wrap64 (a0_1 + 1))) y275 a0_0 a0_1 l0_2 l0_3) = some r := by first | (rw [hy275]; with_reducible exact H) | (have H2_ := (Option.bind_some _ _).symm.trans H; rw [hy275]; with_reducible exact H2_) | (have H2_ := (Option.bind_some _ _).symm.trans H; with_reducible exact H2_) | with_reducible exact H | (rw [hy275]; exact H) | exact H
                  have Ny275 := asd hy275
                  clear hy275
                  have H' := asd H
                  clear H
                  have p274 : 0 ≤ (x10_1 : Int) := of_decide_eq_true (by first | (with_reducible assumption) | assumption)
                  have q274 : x10_1 < (x8_1.length : Int) := of_decide_eq_true (by first | (with_reducible assumption) | assumption)
                  obtain ⟨ad274, e274, hx274_0⟩ := Kd.at_int (Kd.R_reads' HO_8.out).2.2 x10_1 p274 q274
                  obtain rfl : ad266 = ad274 := (by injection e274)
                  replace p274 := eq_true p274
                  replace q274 := eq_true q274
                  go_wp2_with (first | ((with_reducible refine gate_builtin (b := .append) (xs := #[.tmp 79, .tmp 85]) rfl ?_); at_builtin; refine Kd.R_append (Kd.int .i64) (w0 := w) w.heap.size rfl (.tmp 79) (.tmp 85) 35 3 (.int .i64 0) 8 rfl Try.underlying35 info3 rfl (by decide) (by omega) v270 y269 (wrap64 ((rd x8_1 x10_1) + 1)) [.int .i64 (wrap64 ((rd x8_1 x10_1) + 1))] (fun k_ => some k_ ≠ (.slice (some ad266) x8_1.length co26 : Value).ownBlock) (fun _ => False) rfl rfl ?aP (fun _ hk => hk.elim) ?aF ?aO ?aB ?aS ?aL ?_; (case aP => exact rfl); (case aB => exact (by repeat (first | (with_reducible first | exact HB.out | apply below_alloc | apply pw_below_drewN | apply below_drew1 | refine below_set ?_ GE257.out) | exact HB.out))); (case aF => exact (fun k_ hk => Kd.fresh' (Kd.R_lt (by (with_reducible repeat (first | apply Kd.R_alloc | apply Kd.R_drewN | apply Kd.R_drew)); exact HO_8.out)) k_ hk)); (case aO => exact (by (with_reducible repeat (first | apply Kd.R_alloc | apply Kd.R_drewN | apply Kd.R_drew)); exact HO_13.out)); (case aS => exact (below_size (by repeat (first | (with_reducible first | exact HB.out | apply below_alloc | apply pw_below_drewN | apply below_drew1 | refine below_set ?_ GE257.out) | exact HB.out)))); (case aL => have := LMc46.out; omega); intro v276 w47 ho hb hg hat; rw [← Ny275.out] at ho; have n0_ := asd (Kd.R_over' (by (with_reducible repeat (first | apply Kd.R_alloc | apply Kd.R_drewN | apply Kd.R_drew)); exact HO_7.out) (Kd.R_typed (by (with_reducible repeat (first | apply Kd.R_alloc | apply Kd.R_drewN | apply Kd.R_drew)); exact HO_13.out)) (by decide) hg); have n1_ := asd (Kd.R_after (ok := (fun _ => True)) (by (with_reducible repeat (first | apply Kd.R_alloc | apply Kd.R_drewN | apply Kd.R_drew)); exact Kd.R_mono HO_8.out (fun _ hk => ⟨trivial, hk⟩)) hg hat); have n2_ := asd (blk_grown (g := gb257) (o := .cells #[.int .i64 a0_0, .int .i64 a0_1, .slice A0_2 l0_2.length c0_2, .slice A0_3 l0_3.length c0_3] 25 (0, 0)) (by (with_reducible repeat (first | refine blk_drewN ?_ _ | refine blk_drew ?_ | refine blk_alloc ?_ _)); exact BK257.out) hg (Kd.R_ne HO_13.out BK257.out (by decide))); have n3_ := asd (hb); have n4_ := asd (ho); clear HO_7 HO_8 BK257 HB HO_13; have HO_7 := n0_; have HO_8 := n1_; have BK257 := n2_; have HB := n3_; have HO277 := n4_; clear n0_ n1_ n2_ n3_ n4_; clear ho hb hg hat))
                  go_meet
                  case rel => exact ⟨_, (y275), H', ⟨by have := HK1.out; have := HJ24.out; first | omega | exact Nat.le_refl _⟩, ⟨by (try simp only [hl7_1]); (with_reducible repeat (first | apply Kd.R_alloc | apply Kd.R_drewN | apply Kd.R_drew)); exact HO_7.out⟩, ⟨by (try simp only [hl7_1]); (with_reducible repeat (first | apply Kd.R_alloc | apply Kd.R_drewN | apply Kd.R_drew)); exact Kd.R_mono HO_8.out (fun _ hk => hk.2)⟩, ⟨by (try simp only [hl7_1]); (with_reducible repeat (first | apply Kd.R_alloc | apply Kd.R_drewN | apply Kd.R_drew)); exact HO277.out⟩, ⟨by (try simp only [hl7_1]); (with_reducible repeat (first | refine blk_drewN ?_ _ | refine blk_drew ?_ | refine blk_alloc ?_ _)); exact BK257.out⟩, ⟨by repeat (first | (with_reducible first | exact HB.out | apply below_alloc | apply pw_below_drewN | apply below_drew1 | refine below_set ?_ GE257.out) | exact HB.out)⟩⟩
                 ·rw [if_neg c46] at H
                  exact absurd H (by simp)
                ·rw [if_neg c45] at H
                 exact absurd H (by simp)
               ·rw [if_neg c44] at H
                exact absurd H (by simp)
              ·replace c43 := Bool.eq_false_iff.mpr c43
               subst c43
               have H1 : (spec_l17Reach.j2 kj24 x7_1 x8_1 (wrap64 (x9_1 + t268)) x10_1 (wrap64 (Int.tdiv (rd x8_1 x10_1) (wrap64 (a0_1 + 1)))) (Int.tmod (rd x8_1 x10_1) (wrap64 (a0_1 + 1))) y269 a0_0 a0_1 l0_2 l0_3) = some r := by rw [if_neg (show ¬ (false = true) by decide)] at H; exact H
               clear H
               have H := H1
               clear H1
               have H' := asd H
               clear H
               go_wp2
               go_meet
               case rel => exact ⟨_, (y269), H', ⟨by have := HK1.out; have := HJ24.out; first | omega | exact Nat.le_refl _⟩, ⟨by (try simp only [hl7_1]); (with_reducible repeat (first | apply Kd.R_alloc | apply Kd.R_drewN | apply Kd.R_drew)); exact HO_7.out⟩, ⟨by (try simp only [hl7_1]); (with_reducible repeat (first | apply Kd.R_alloc | apply Kd.R_drewN | apply Kd.R_drew)); exact HO_8.out⟩, ⟨by (try simp only [hl7_1]); (with_reducible repeat (first | apply Kd.R_alloc | apply Kd.R_drewN | apply Kd.R_drew)); exact HO_13.out⟩, ⟨by (try simp only [hl7_1]); (with_reducible repeat (first | refine blk_drewN ?_ _ | refine blk_drew ?_ | refine blk_alloc ?_ _)); exact BK257.out⟩, ⟨by repeat (first | (with_reducible first | exact HB.out | apply below_alloc | apply pw_below_drewN | apply below_drew1 | refine below_set ?_ GE257.out) | exact HB.out)⟩⟩
             case rest => as_aux_lemma =>
              clear HC42; try clear c4; try clear c43; try clear c44; try clear c44b0; try clear c45; try clear c45b0; try clear c46; try clear hx274_0; try clear p274; try clear q274
              obtain ⟨kq, x13_41, HA, HJ41, HO_7, HO_8, HO_13, BK257, HB⟩ := hcut
              cases kq with
              | zero => exact absurd HA.out (by simp [spec_l17Reach.j2])
              | succ kj41 =>
               have H := HA.out
               clear HA
               simp only [spec_l17Reach.j2] at H
               have HC48 := asd H
               clear H
               go_upto_region 14 with (fail)
               go_cut [99] (fun v99 wc => ∃ (kq : Nat) (x99_47 : Bool), v99 = .bool x99_47 ∧ Aside0 (spec_l17Reach.j3 kq x7_1 x8_1 (wrap64 (x9_1 + t268)) x10_1 (wrap64 (Int.tdiv (rd x8_1 x10_1) (wrap64 (a0_1 + 1)))) (Int.tmod (rd x8_1 x10_1) (wrap64 (a0_1 + 1))) x13_41 x99_47 a0_0 a0_1 l0_2 l0_3 = some r) ∧ Aside0 (kq ≤ kj41) ∧ Aside0 (Kd.R Kd.bool 4 wc w.heap.size (fun _ => True) (.slice (some ⟨go10, 0, none⟩) x7_1.length co10) x7_1) ∧ Aside0 (Kd.R (Kd.int .i64) 3 wc w.heap.size (fun k_ => some k_ ≠ (u13 : Value).ownBlock) (.slice (some ad266) x8_1.length co26) x8_1) ∧ Aside0 (Kd.R (Kd.int .i64) 3 wc w.heap.size (fun k_ => some k_ ≠ ((.slice (some ad266) x8_1.length co26) : Value).ownBlock) u13 x13_41) ∧ Aside0 (wc.heap[gb257]? = some (.cells #[.int .i64 a0_0, .int .i64 a0_1, (.slice A0_2 l0_2.length c0_2), (.slice A0_3 l0_3.length c0_3)] 25 (0, 0))) ∧ Aside0 (Below w.heap.size w wc))
               case first =>
                have H := HC48.out
                clear HC48
                by_cases c49 : (Int.tmod (rd x8_1 x10_1) (wrap64 (a0_1 + 1))) > 0
                ·rw [if_pos c49] at H
                 have c49b0 : decide (0 < (Int.tmod (rd x8_1 x10_1) (wrap64 (a0_1 + 1)))) = true := decide_eq_true c49
                 (try rw [hji37] at c49b0)
                 clear c49
                 (first | rw [c49b0] | (simp only [i64_w, i32_w]; rw [c49b0]) | skip)
                 obtain ⟨ji50, hji50⟩ : ∃ j_ : Int, (wrap64 (Int.tdiv (rd x8_1 x10_1) (wrap64 (a0_1 + 1)))) = j_ := ⟨_, rfl⟩
                 replace H : (if 0 ≤ (ji50) then (if (ji50) < (l0_2.length : Int) then (if 0 ≤ (wrap64 ((Int.tmod (rd x8_1 x10_1) (wrap64 (a0_1 + 1))) - 1)) then (if (wrap64 ((Int.tmod (rd x8_1 x10_1) (wrap64 (a0_1 + 1))) - 1)) < ((rd_L1 l0_2 (ji50)).length : Int) then (spec_l17Reach.j3 kj41 x7_1 x8_1 (wrap64 (x9_1 + t268)) x10_1 (ji50) (Int.tmod (rd x8_1 x10_1) (wrap64 (a0_1 + 1))) x13_41 (rdOf false (rd_L1 l0_2 (ji50)) (wrap64 ((Int.tmod (rd x8_1 x10_1) (wrap64 (a0_1 + 1))) - 1))) a0_0 a0_1 l0_2 l0_3) else (none)) else (none)) else (none)) else (none)) = some r := by first | (rw [hji50] at H; exact H) | (simp only [hji50] at H ⊢; exact H)
                 have hji50w : (IntKind.i64.wrap (Int.tdiv (rd x8_1 x10_1) (wrap64 (a0_1 + 1)))) = ji50 := (i64_w _).trans hji50
                 by_cases c51 : 0 ≤ (ji50)
                 ·rw [if_pos c51] at H
                  have c51b0 : decide (0 ≤ (ji50)) = true := decide_eq_true c51
                  clear c51
                  by_cases c52 : (ji50) < (l0_2.length : Int)
                  ·rw [if_pos c52] at H
                   have c52b0 : decide ((ji50) < (l0_2.length : Int)) = true := decide_eq_true c52
                   clear c52
                   obtain ⟨ji53, hji53⟩ : ∃ j_ : Int, (wrap64 ((Int.tmod (rd x8_1 x10_1) (wrap64 (a0_1 + 1))) - 1)) = j_ := ⟨_, rfl⟩
                   replace H : (if 0 ≤ (ji53) then (if (ji53) < ((rd_L1 l0_2 (ji50)).length : Int) then (spec_l17Reach.j3 kj41 x7_1 x8_1 (wrap64 (x9_1 + t268)) x10_1 (ji50) (Int.tmod (rd x8_1 x10_1) (wrap64 (a0_1 + 1))) x13_41 (rdOf false (rd_L1 l0_2 (ji50)) (ji53)) a0_0 a0_1 l0_2 l0_3) else (none)) else (none)) = some r := by first | (rw [hji53] at H; exact H) | (simp only [hji53] at H ⊢; exact H)
                   have hji53w : (IntKind.i64.wrap ((Int.tmod (rd x8_1 x10_1) (wrap64 (a0_1 + 1))) - 1)) = ji53 := (i64_w _).trans hji53
                   by_cases c54 : 0 ≤ (ji53)
                   ·rw [if_pos c54] at H
                    have c54b0 : decide (0 ≤ (ji53)) = true := decide_eq_true c54
                    clear c54
                    by_cases c55 : (ji53) < ((rd_L1 l0_2 (ji50)).length : Int)
                    ·rw [if_pos c55] at H
                     have c55b0 : decide ((ji53) < ((rd_L1 l0_2 (ji50)).length : Int)) = true := decide_eq_true c55
                     clear c55
                     have H' := asd H
                     clear H
                     have hcz56_0 : wc.cell? ⟨gb257, 0, none⟩ = some (.int .i64 a0_0) := (blk_cell BK257.out 0).trans rfl
                     have hcz56_1 : wc.cell? ⟨gb257, 1, none⟩ = some (.int .i64 a0_1) := (blk_cell BK257.out 1).trans rfl
                     have hcz56_2 : wc.cell? ⟨gb257, 2, none⟩ = some (.slice A0_2 l0_2.length c0_2) := (blk_cell BK257.out 2).trans rfl
                     have hcz56_3 : wc.cell? ⟨gb257, 3, none⟩ = some (.slice A0_3 l0_3.length c0_3) := (blk_cell BK257.out 3).trans rfl
                     have hfz56_0 := blk_frozen BK257.out 0
                     have hfz56_1 := blk_frozen BK257.out 1
                     have hfz56_2 := blk_frozen BK257.out 2
                     have hfz56_3 := blk_frozen BK257.out 3
                     have p278 : 0 ≤ ((ji50) : Int) := of_decide_eq_true (by first | (with_reducible assumption) | assumption)
                     have q278 : (ji50) < (l0_2.length : Int) := of_decide_eq_true (by first | (with_reducible assumption) | assumption)
                     obtain ⟨ad278, A278_0, c278_0, e278, hx278_0, hl278_0, hi278_0⟩ := at_L1 HR0_2.out (ji50) p278 q278
                     cases e278
                     replace hx278_0 := (HB.out.cell (World.block_lt_of_cell? w _ hx278_0)).trans hx278_0
                     have HR278_0 := asd hi278_0
                     have HC278_0 := asd hl278_0
                     clear hi278_0 hl278_0
                     replace p278 := eq_true p278
                     replace q278 := eq_true q278
                     have p279 : 0 ≤ ((ji53) : Int) := of_decide_eq_true (by first | (with_reducible assumption) | assumption)
                     have q279 : (ji53) < ((rd_L1 l0_2 (ji50)).length : Int) := of_decide_eq_true (by first | (with_reducible assumption) | assumption)
                     obtain ⟨ad279, e279, hx279_0⟩ := Kd.at_bool HR278_0.out (ji53) p279 q279
                     cases e279
                     replace hx279_0 := (HB.out.cell (World.block_lt_of_cell? w _ hx279_0)).trans hx279_0
                     replace p279 := eq_true p279
                     replace q279 := eq_true q279
                     go_wp2
                     (try subst hji50); (try subst hji53)
                     go_meet
                     case rel => exact ⟨_, (rdOf false (rd_L1 l0_2 ((wrap64 (Int.tdiv (rd x8_1 x10_1) (wrap64 (a0_1 + 1)))))) ((wrap64 ((Int.tmod (rd x8_1 x10_1) (wrap64 (a0_1 + 1))) - 1)))), (by first | rfl | (simp; done) | (simp [*]; done)), H', ⟨by have := HK1.out; have := HJ24.out; have := HJ41.out; first | omega | exact Nat.le_refl _⟩, ⟨by (try simp only [hl7_1]); (with_reducible repeat (first | apply Kd.R_alloc | apply Kd.R_drewN | apply Kd.R_drew)); exact HO_7.out⟩, ⟨by (try simp only [hl7_1]); (with_reducible repeat (first | apply Kd.R_alloc | apply Kd.R_drewN | apply Kd.R_drew)); exact HO_8.out⟩, ⟨by (try simp only [hl7_1]); (with_reducible repeat (first | apply Kd.R_alloc | apply Kd.R_drewN | apply Kd.R_drew)); exact HO_13.out⟩, ⟨by (try simp only [hl7_1]); (with_reducible repeat (first | refine blk_drewN ?_ _ | refine blk_drew ?_ | refine blk_alloc ?_ _)); exact BK257.out⟩, ⟨by repeat (first | (with_reducible first | exact HB.out | apply below_alloc | apply pw_below_drewN | apply below_drew1 | refine below_set ?_ GE257.out) | exact HB.out)⟩⟩
                    ·rw [if_neg c55] at H
                     exact absurd H (by simp)
                   ·rw [if_neg c54] at H
                    exact absurd H (by simp)
                  ·rw [if_neg c52] at H
                   exact absurd H (by simp)
                 ·rw [if_neg c51] at H
                  exact absurd H (by simp)
                ·rw [if_neg c49] at H
                 have c49b0 : decide (0 < (Int.tmod (rd x8_1 x10_1) (wrap64 (a0_1 + 1)))) = false := decide_eq_false c49
                 (try rw [hji37] at c49b0)
                 clear c49
                 (first | rw [c49b0] | (simp only [i64_w, i32_w]; rw [c49b0]) | skip)
                 have H' := asd H
                 clear H
                 go_wp2
                 go_meet
                 case rel => exact ⟨_, (false), (by first | rfl | (simp; done) | (simp [*]; done)), H', ⟨by have := HK1.out; have := HJ24.out; have := HJ41.out; first | omega | exact Nat.le_refl _⟩, ⟨by (try simp only [hl7_1]); (with_reducible repeat (first | apply Kd.R_alloc | apply Kd.R_drewN | apply Kd.R_drew)); exact HO_7.out⟩, ⟨by (try simp only [hl7_1]); (with_reducible repeat (first | apply Kd.R_alloc | apply Kd.R_drewN | apply Kd.R_drew)); exact HO_8.out⟩, ⟨by (try simp only [hl7_1]); (with_reducible repeat (first | apply Kd.R_alloc | apply Kd.R_drewN | apply Kd.R_drew)); exact HO_13.out⟩, ⟨by (try simp only [hl7_1]); (with_reducible repeat (first | refine blk_drewN ?_ _ | refine blk_drew ?_ | refine blk_alloc ?_ _)); exact BK257.out⟩, ⟨by repeat (first | (with_reducible first | exact HB.out | apply below_alloc | apply pw_below_drewN | apply below_drew1 | refine below_set ?_ GE257.out) | exact HB.out)⟩⟩
               case rest => as_aux_lemma =>
                clear HC48; try clear c49; try clear c49b0; try clear c51; try clear c51b0; try clear c52; try clear c52b0; try clear c54; try clear c54b0; try clear c55; try clear c55b0; try clear hcz56_0; try clear hcz56_1; try clear hcz56_2; try clear hcz56_3; try clear hfz56_0; try clear hfz56_1; try clear hfz56_2; try clear hfz56_3; try clear hx278_0; try clear hx279_0; try clear p278; try clear p279; try clear q278; try clear q279
                obtain ⟨kq, x99_47, rfl, HA, HJ47, HO_7, HO_8, HO_13, BK257, HB⟩ := hcut
                cases kq with
                | zero => exact absurd HA.out (by simp [spec_l17Reach.j3])
                | succ kj47 =>
                 have H := HA.out
                 clear HA
                 simp only [spec_l17Reach.j3] at H
                 have HC57 := asd H
                 clear H
                 go_upto_if 99 with (fail)
                 go_cut [13] (fun v13 wc => ∃ (kq : Nat) (x13_56 : List Int), Aside0 (spec_l17Reach.j4 kq x7_1 x8_1 (wrap64 (x9_1 + t268)) x10_1 (wrap64 (Int.tdiv (rd x8_1 x10_1) (wrap64 (a0_1 + 1)))) (Int.tmod (rd x8_1 x10_1) (wrap64 (a0_1 + 1))) x13_56 a0_0 a0_1 l0_2 l0_3 = some r) ∧ Aside0 (kq ≤ kj47) ∧ Aside0 (Kd.R Kd.bool 4 wc w.heap.size (fun _ => True) (.slice (some ⟨go10, 0, none⟩) x7_1.length co10) x7_1) ∧ Aside0 (Kd.R (Kd.int .i64) 3 wc w.heap.size (fun k_ => some k_ ≠ (v13 : Value).ownBlock) (.slice (some ad266) x8_1.length co26) x8_1) ∧ Aside0 (Kd.R (Kd.int .i64) 3 wc w.heap.size (fun k_ => some k_ ≠ ((.slice (some ad266) x8_1.length co26) : Value).ownBlock) v13 x13_56) ∧ Aside0 (wc.heap[gb257]? = some (.cells #[.int .i64 a0_0, .int .i64 a0_1, (.slice A0_2 l0_2.length c0_2), (.slice A0_3 l0_3.length c0_3)] 25 (0, 0))) ∧ Aside0 (Below w.heap.size w wc))
                 case first =>
                  have H := HC57.out
                  clear HC57
                  by_cases c58 : x99_47 = true
                  ·subst c58
                   have H1 : (if 0 ≤ x10_1 then (if x10_1 < (x8_1.length : Int) then (if x13_41.length < 17592186044416 then (spec_l17Reach.j4 kj47 x7_1 x8_1 (wrap64 (x9_1 + t268)) x10_1 (wrap64 (Int.tdiv (rd x8_1 x10_1) (wrap64 (a0_1 + 1)))) (Int.tmod (rd x8_1 x10_1) (wrap64 (a0_1 + 1))) (x13_41 ++ [wrap64 ((rd x8_1 x10_1) - 1)]) a0_0 a0_1 l0_2 l0_3) else (none)) else (none)) else (none)) = some r := by rw [if_pos rfl] at H; exact H
                   clear H
                   have H := H1
                   clear H1
                   by_cases c59 : 0 ≤ x10_1
                   ·rw [if_pos c59] at H
                    have c59b0 : decide (0 ≤ x10_1) = true := decide_eq_true c59
                    clear c59
                    (first | rw [c59b0] | (simp only [i64_w, i32_w]; rw [c59b0]) | skip)
                    by_cases c60 : x10_1 < (x8_1.length : Int)
                    ·rw [if_pos c60] at H
                     have c60b0 : decide (x10_1 < (x8_1.length : Int)) = true := decide_eq_true c60
                     clear c60
                     by_cases c61 : x13_41.length < 17592186044416
                     ·rw [if_pos c61] at H
                      have LMc61 := asd c61
                      clear c61
                      obtain ⟨y281, hy281⟩ : ∃ y_ : List Int, y_ = (x13_41 ++ [wrap64 ((rd x8_1 x10_1) - 1)]) := ⟨_, rfl⟩
                      replace H : (spec_l17Reach.j4 kj47 x7_1 x8_1 (wrap64 (x9_1 + t268)) x10_1 (wrap64 (Int.tdiv (rd x8_1 x10_1) (wrap64 (a0_1 + 1)))) (Int.tmod (rd x8_1 x10_1) (wrap64 (a0_1 + 1))) y281 a0_0 a0_1 l0_2 l0_3) = some r := by first | (rw [hy281]; with_reducible exact H) | (have H2_ := (Option.bind_some _ _).symm.trans H; rw [hy281]; with_reducible exact H2_) | (have H2_ := (Option.bind_some _ _).symm.trans H; with_reducible exact H2_) | with_reducible exact H | (rw [hy281]; exact H) | exact H
                      have Ny281 := asd hy281
                      clear hy281
                      have H' := asd H
                      clear H
                      have p280 : 0 ≤ (x10_1 : Int) := of_decide_eq_true (by first | (with_reducible assumption) | assumption)
                      have q280 : x10_1 < (x8_1.length : Int) := of_decide_eq_true (by first | (with_reducible assumption) | assumption)
                      obtain ⟨ad280, e280, hx280_0⟩ := Kd.at_int (Kd.R_reads' HO_8.out).2.2 x10_1 p280 q280
                      obtain rfl : ad266 = ad280 := (by injection e280)
                      replace p280 := eq_true p280
                      replace q280 := eq_true q280
                      go_wp2_with (first | ((with_reducible refine gate_builtin (b := .append) (xs := #[.tmp 100, .tmp 106]) rfl ?_); at_builtin; refine Kd.R_append (Kd.int .i64) (w0 := w) w.heap.size rfl (.tmp 100) (.tmp 106) 35 3 (.int .i64 0) 8 rfl Try.underlying35 info3 rfl (by decide) (by omega) u13 x13_41 (wrap64 ((rd x8_1 x10_1) - 1)) [.int .i64 (wrap64 ((rd x8_1 x10_1) - 1))] (fun k_ => some k_ ≠ (.slice (some ad266) x8_1.length co26 : Value).ownBlock) (fun _ => False) rfl rfl ?aP (fun _ hk => hk.elim) ?aF ?aO ?aB ?aS ?aL ?_; (case aP => exact rfl); (case aB => exact (by repeat (first | (with_reducible first | exact HB.out | apply below_alloc | apply pw_below_drewN | apply below_drew1 | refine below_set ?_ GE257.out) | exact HB.out))); (case aF => exact (fun k_ hk => Kd.fresh' (Kd.R_lt (by (with_reducible repeat (first | apply Kd.R_alloc | apply Kd.R_drewN | apply Kd.R_drew)); exact HO_8.out)) k_ hk)); (case aO => exact (by (with_reducible repeat (first | apply Kd.R_alloc | apply Kd.R_drewN | apply Kd.R_drew)); exact HO_13.out)); (case aS => exact (below_size (by repeat (first | (with_reducible first | exact HB.out | apply below_alloc | apply pw_below_drewN | apply below_drew1 | refine below_set ?_ GE257.out) | exact HB.out)))); (case aL => have := LMc61.out; omega); intro v282 w62 ho hb hg hat; rw [← Ny281.out] at ho; have n0_ := asd (Kd.R_over' (by (with_reducible repeat (first | apply Kd.R_alloc | apply Kd.R_drewN | apply Kd.R_drew)); exact HO_7.out) (Kd.R_typed (by (with_reducible repeat (first | apply Kd.R_alloc | apply Kd.R_drewN | apply Kd.R_drew)); exact HO_13.out)) (by decide) hg); have n1_ := asd (Kd.R_after (ok := (fun _ => True)) (by (with_reducible repeat (first | apply Kd.R_alloc | apply Kd.R_drewN | apply Kd.R_drew)); exact Kd.R_mono HO_8.out (fun _ hk => ⟨trivial, hk⟩)) hg hat); have n2_ := asd (blk_grown (g := gb257) (o := .cells #[.int .i64 a0_0, .int .i64 a0_1, .slice A0_2 l0_2.length c0_2, .slice A0_3 l0_3.length c0_3] 25 (0, 0)) (by (with_reducible repeat (first | refine blk_drewN ?_ _ | refine blk_drew ?_ | refine blk_alloc ?_ _)); exact BK257.out) hg (Kd.R_ne HO_13.out BK257.out (by decide))); have n3_ := asd (hb); have n4_ := asd (ho); clear HO_7 HO_8 BK257 HB HO_13; have HO_7 := n0_; have HO_8 := n1_; have BK257 := n2_; have HB := n3_; have HO283 := n4_; clear n0_ n1_ n2_ n3_ n4_; clear ho hb hg hat))
                      go_meet
                      case rel => exact ⟨_, (y281), H', ⟨by have := HK1.out; have := HJ24.out; have := HJ41.out; have := HJ47.out; first | omega | exact Nat.le_refl _⟩, ⟨by (try simp only [hl7_1]); (with_reducible repeat (first | apply Kd.R_alloc | apply Kd.R_drewN | apply Kd.R_drew)); exact HO_7.out⟩, ⟨by (try simp only [hl7_1]); (with_reducible repeat (first | apply Kd.R_alloc | apply Kd.R_drewN | apply Kd.R_drew)); exact Kd.R_mono HO_8.out (fun _ hk => hk.2)⟩, ⟨by (try simp only [hl7_1]); (with_reducible repeat (first | apply Kd.R_alloc | apply Kd.R_drewN | apply Kd.R_drew)); exact HO283.out⟩, ⟨by (try simp only [hl7_1]); (with_reducible repeat (first | refine blk_drewN ?_ _ | refine blk_drew ?_ | refine blk_alloc ?_ _)); exact BK257.out⟩, ⟨by repeat (first | (with_reducible first | exact HB.out | apply below_alloc | apply pw_below_drewN | apply below_drew1 | refine below_set ?_ GE257.out) | exact HB.out)⟩⟩
                     ·rw [if_neg c61] at H
                      exact absurd H (by simp)
                    ·rw [if_neg c60] at H
                     exact absurd H (by simp)
                   ·rw [if_neg c59] at H
                    exact absurd H (by simp)
                  ·replace c58 := Bool.eq_false_iff.mpr c58
                   subst c58
                   have H1 : (spec_l17Reach.j4 kj47 x7_1 x8_1 (wrap64 (x9_1 + t268)) x10_1 (wrap64 (Int.tdiv (rd x8_1 x10_1) (wrap64 (a0_1 + 1)))) (Int.tmod (rd x8_1 x10_1) (wrap64 (a0_1 + 1))) x13_41 a0_0 a0_1 l0_2 l0_3) = some r := by rw [if_neg (show ¬ (false = true) by decide)] at H; exact H
                   clear H
                   have H := H1
                   clear H1
                   have H' := asd H
                   clear H
                   go_wp2
                   go_meet
                   case rel => exact ⟨_, (x13_41), H', ⟨by have := HK1.out; have := HJ24.out; have := HJ41.out; have := HJ47.out; first | omega | exact Nat.le_refl _⟩, ⟨by (try simp only [hl7_1]); (with_reducible repeat (first | apply Kd.R_alloc | apply Kd.R_drewN | apply Kd.R_drew)); exact HO_7.out⟩, ⟨by (try simp only [hl7_1]); (with_reducible repeat (first | apply Kd.R_alloc | apply Kd.R_drewN | apply Kd.R_drew)); exact HO_8.out⟩, ⟨by (try simp only [hl7_1]); (with_reducible repeat (first | apply Kd.R_alloc | apply Kd.R_drewN | apply Kd.R_drew)); exact HO_13.out⟩, ⟨by (try simp only [hl7_1]); (with_reducible repeat (first | refine blk_drewN ?_ _ | refine blk_drew ?_ | refine blk_alloc ?_ _)); exact BK257.out⟩, ⟨by repeat (first | (with_reducible first | exact HB.out | apply below_alloc | apply pw_below_drewN | apply below_drew1 | refine below_set ?_ GE257.out) | exact HB.out)⟩⟩
                 case rest => as_aux_lemma =>
                  clear HC57; try clear p28; try clear q28; try clear hx28; try clear c58; try clear c59; try clear c59b0; try clear c60; try clear c60b0; try clear c61; try clear hx280_0; try clear p280; try clear q280
                  obtain ⟨kq, x13_56, HA, HJ56, HO_7, HO_8, HO_13, BK257, HB⟩ := hcut
                  cases kq with
                  | zero => exact absurd HA.out (by simp [spec_l17Reach.j4])
                  | succ kj56 =>
                   have H := HA.out
                   clear HA
                   simp only [spec_l17Reach.j4] at H
                   have HC63 := asd H
                   clear H
                   go_upto_region 16 with (fail)
                   go_cut [121] (fun v121 wc => ∃ (kq : Nat) (x121_62 : Bool), v121 = .bool x121_62 ∧ Aside0 (spec_l17Reach.j5 kq x7_1 x8_1 (wrap64 (x9_1 + t268)) x10_1 (wrap64 (Int.tdiv (rd x8_1 x10_1) (wrap64 (a0_1 + 1)))) (Int.tmod (rd x8_1 x10_1) (wrap64 (a0_1 + 1))) x13_56 x121_62 a0_0 a0_1 l0_2 l0_3 = some r) ∧ Aside0 (kq ≤ kj56) ∧ Aside0 (Kd.R Kd.bool 4 wc w.heap.size (fun _ => True) (.slice (some ⟨go10, 0, none⟩) x7_1.length co10) x7_1) ∧ Aside0 (Kd.R (Kd.int .i64) 3 wc w.heap.size (fun k_ => some k_ ≠ (u13 : Value).ownBlock) (.slice (some ad266) x8_1.length co26) x8_1) ∧ Aside0 (Kd.R (Kd.int .i64) 3 wc w.heap.size (fun k_ => some k_ ≠ ((.slice (some ad266) x8_1.length co26) : Value).ownBlock) u13 x13_56) ∧ Aside0 (wc.heap[gb257]? = some (.cells #[.int .i64 a0_0, .int .i64 a0_1, (.slice A0_2 l0_2.length c0_2), (.slice A0_3 l0_3.length c0_3)] 25 (0, 0))) ∧ Aside0 (Below w.heap.size w wc))
                   case first =>
                    have H := HC63.out
                    clear HC63
                    by_cases c64 : (wrap64 (Int.tdiv (rd x8_1 x10_1) (wrap64 (a0_1 + 1)))) < a0_0
                    ·rw [if_pos c64] at H
                     have c64b0 : decide ((wrap64 (Int.tdiv (rd x8_1 x10_1) (wrap64 (a0_1 + 1)))) < a0_0) = true := decide_eq_true c64
                     (try rw [hji34] at c64b0)
                     (try rw [hji50] at c64b0)
                     clear c64
                     (first | rw [c64b0] | (simp only [i64_w, i32_w]; rw [c64b0]) | skip)
                     obtain ⟨ji65, hji65⟩ : ∃ j_ : Int, (Int.tmod (rd x8_1 x10_1) (wrap64 (a0_1 + 1))) = j_ := ⟨_, rfl⟩
                     replace H : (if 0 ≤ (ji65) then (if (ji65) < (l0_3.length : Int) then (if 0 ≤ (wrap64 (Int.tdiv (rd x8_1 x10_1) (wrap64 (a0_1 + 1)))) then (if (wrap64 (Int.tdiv (rd x8_1 x10_1) (wrap64 (a0_1 + 1)))) < ((rd_L1 l0_3 (ji65)).length : Int) then (spec_l17Reach.j5 kj56 x7_1 x8_1 (wrap64 (x9_1 + t268)) x10_1 (wrap64 (Int.tdiv (rd x8_1 x10_1) (wrap64 (a0_1 + 1)))) (ji65) x13_56 (rdOf false (rd_L1 l0_3 (ji65)) (wrap64 (Int.tdiv (rd x8_1 x10_1) (wrap64 (a0_1 + 1))))) a0_0 a0_1 l0_2 l0_3) else (none)) else (none)) else (none)) else (none)) = some r := by first | (rw [hji65] at H; exact H) | (simp only [hji65] at H ⊢; exact H)
                     by_cases c66 : 0 ≤ (ji65)
                     ·rw [if_pos c66] at H
                      have c66b0 : decide (0 ≤ (ji65)) = true := decide_eq_true c66
                      clear c66
                      by_cases c67 : (ji65) < (l0_3.length : Int)
                      ·rw [if_pos c67] at H
                       have c67b0 : decide ((ji65) < (l0_3.length : Int)) = true := decide_eq_true c67
                       clear c67
                       obtain ⟨ji68, hji68⟩ : ∃ j_ : Int, (wrap64 (Int.tdiv (rd x8_1 x10_1) (wrap64 (a0_1 + 1)))) = j_ := ⟨_, rfl⟩
                       replace H : (if 0 ≤ (ji68) then (if (ji68) < ((rd_L1 l0_3 (ji65)).length : Int) then (spec_l17Reach.j5 kj56 x7_1 x8_1 (wrap64 (x9_1 + t268)) x10_1 (ji68) (ji65) x13_56 (rdOf false (rd_L1 l0_3 (ji65)) (ji68)) a0_0 a0_1 l0_2 l0_3) else (none)) else (none)) = some r := by first | (rw [hji68] at H; exact H) | (simp only [hji68] at H ⊢; exact H)
                       (try rw [hji68] at c64b0)
                       have hji68w : (IntKind.i64.wrap (Int.tdiv (rd x8_1 x10_1) (wrap64 (a0_1 + 1)))) = ji68 := (i64_w _).trans hji68
                       by_cases c69 : 0 ≤ (ji68)
                       ·rw [if_pos c69] at H
                        have c69b0 : decide (0 ≤ (ji68)) = true := decide_eq_true c69
                        clear c69
                        by_cases c70 : (ji68) < ((rd_L1 l0_3 (ji65)).length : Int)
                        ·rw [if_pos c70] at H
                         have c70b0 : decide ((ji68) < ((rd_L1 l0_3 (ji65)).length : Int)) = true := decide_eq_true c70
                         clear c70
                         have H' := asd H
                         clear H
                         have hcz71_0 : wc.cell? ⟨gb257, 0, none⟩ = some (.int .i64 a0_0) := (blk_cell BK257.out 0).trans rfl
                         have hcz71_1 : wc.cell? ⟨gb257, 1, none⟩ = some (.int .i64 a0_1) := (blk_cell BK257.out 1).trans rfl
                         have hcz71_2 : wc.cell? ⟨gb257, 2, none⟩ = some (.slice A0_2 l0_2.length c0_2) := (blk_cell BK257.out 2).trans rfl
                         have hcz71_3 : wc.cell? ⟨gb257, 3, none⟩ = some (.slice A0_3 l0_3.length c0_3) := (blk_cell BK257.out 3).trans rfl
                         have hfz71_0 := blk_frozen BK257.out 0
                         have hfz71_1 := blk_frozen BK257.out 1
                         have hfz71_2 := blk_frozen BK257.out 2
                         have hfz71_3 := blk_frozen BK257.out 3
                         have p284 : 0 ≤ ((ji65) : Int) := of_decide_eq_true (by first | (with_reducible assumption) | assumption)
                         have q284 : (ji65) < (l0_3.length : Int) := of_decide_eq_true (by first | (with_reducible assumption) | assumption)
                         obtain ⟨ad284, A284_0, c284_0, e284, hx284_0, hl284_0, hi284_0⟩ := at_L1 HR0_3.out (ji65) p284 q284
                         cases e284
                         replace hx284_0 := (HB.out.cell (World.block_lt_of_cell? w _ hx284_0)).trans hx284_0
                         have HR284_0 := asd hi284_0
                         have HC284_0 := asd hl284_0
                         clear hi284_0 hl284_0
                         replace p284 := eq_true p284
                         replace q284 := eq_true q284
                         have p285 : 0 ≤ ((ji68) : Int) := of_decide_eq_true (by first | (with_reducible assumption) | assumption)
                         have q285 : (ji68) < ((rd_L1 l0_3 (ji65)).length : Int) := of_decide_eq_true (by first | (with_reducible assumption) | assumption)
                         obtain ⟨ad285, e285, hx285_0⟩ := Kd.at_bool HR284_0.out (ji68) p285 q285
                         cases e285
                         replace hx285_0 := (HB.out.cell (World.block_lt_of_cell? w _ hx285_0)).trans hx285_0
                         replace p285 := eq_true p285
                         replace q285 := eq_true q285
                         go_wp2
                         (try subst hji65); (try subst hji68)
                         go_meet
                         case rel => exact ⟨_, (rdOf false (rd_L1 l0_3 ((Int.tmod (rd x8_1 x10_1) (wrap64 (a0_1 + 1))))) ((wrap64 (Int.tdiv (rd x8_1 x10_1) (wrap64 (a0_1 + 1)))))), (by first | rfl | (simp; done) | (simp [*]; done)), H', ⟨by have := HK1.out; have := HJ24.out; have := HJ41.out; have := HJ47.out; have := HJ56.out; first | omega | exact Nat.le_refl _⟩, ⟨by (try simp only [hl7_1]); (with_reducible repeat (first | apply Kd.R_alloc | apply Kd.R_drewN | apply Kd.R_drew)); exact HO_7.out⟩, ⟨by (try simp only [hl7_1]); (with_reducible repeat (first | apply Kd.R_alloc | apply Kd.R_drewN | apply Kd.R_drew)); exact HO_8.out⟩, ⟨by (try simp only [hl7_1]); (with_reducible repeat (first | apply Kd.R_alloc | apply Kd.R_drewN | apply Kd.R_drew)); exact HO_13.out⟩, ⟨by (try simp only [hl7_1]); (with_reducible repeat (first | refine blk_drewN ?_ _ | refine blk_drew ?_ | refine blk_alloc ?_ _)); exact BK257.out⟩, ⟨by repeat (first | (with_reducible first | exact HB.out | apply below_alloc | apply pw_below_drewN | apply below_drew1 | refine below_set ?_ GE257.out) | exact HB.out)⟩⟩
                        ·rw [if_neg c70] at H
                         exact absurd H (by simp)
                       ·rw [if_neg c69] at H
                        exact absurd H (by simp)
                      ·rw [if_neg c67] at H
                       exact absurd H (by simp)
                     ·rw [if_neg c66] at H
                      exact absurd H (by simp)
                    ·rw [if_neg c64] at H
                     have c64b0 : decide ((wrap64 (Int.tdiv (rd x8_1 x10_1) (wrap64 (a0_1 + 1)))) < a0_0) = false := decide_eq_false c64
                     (try rw [hji34] at c64b0)
                     (try rw [hji50] at c64b0)
                     (try rw [hji68] at c64b0)
                     clear c64
                     (first | rw [c64b0] | (simp only [i64_w, i32_w]; rw [c64b0]) | skip)
                     have H' := asd H
                     clear H
                     have hcz72_0 : wc.cell? ⟨gb257, 0, none⟩ = some (.int .i64 a0_0) := (blk_cell BK257.out 0).trans rfl
                     have hcz72_1 : wc.cell? ⟨gb257, 1, none⟩ = some (.int .i64 a0_1) := (blk_cell BK257.out 1).trans rfl
                     have hcz72_2 : wc.cell? ⟨gb257, 2, none⟩ = some (.slice A0_2 l0_2.length c0_2) := (blk_cell BK257.out 2).trans rfl
                     have hcz72_3 : wc.cell? ⟨gb257, 3, none⟩ = some (.slice A0_3 l0_3.length c0_3) := (blk_cell BK257.out 3).trans rfl
                     have hfz72_0 := blk_frozen BK257.out 0
                     have hfz72_1 := blk_frozen BK257.out 1
                     have hfz72_2 := blk_frozen BK257.out 2
                     have hfz72_3 := blk_frozen BK257.out 3
                     go_wp2
                     go_meet
                     case rel => exact ⟨_, (false), (by first | rfl | (simp; done) | (simp [*]; done)), H', ⟨by have := HK1.out; have := HJ24.out; have := HJ41.out; have := HJ47.out; have := HJ56.out; first | omega | exact Nat.le_refl _⟩, ⟨by (try simp only [hl7_1]); (with_reducible repeat (first | apply Kd.R_alloc | apply Kd.R_drewN | apply Kd.R_drew)); exact HO_7.out⟩, ⟨by (try simp only [hl7_1]); (with_reducible repeat (first | apply Kd.R_alloc | apply Kd.R_drewN | apply Kd.R_drew)); exact HO_8.out⟩, ⟨by (try simp only [hl7_1]); (with_reducible repeat (first | apply Kd.R_alloc | apply Kd.R_drewN | apply Kd.R_drew)); exact HO_13.out⟩, ⟨by (try simp only [hl7_1]); (with_reducible repeat (first | refine blk_drewN ?_ _ | refine blk_drew ?_ | refine blk_alloc ?_ _)); exact BK257.out⟩, ⟨by repeat (first | (with_reducible first | exact HB.out | apply below_alloc | apply pw_below_drewN | apply below_drew1 | refine below_set ?_ GE257.out) | exact HB.out)⟩⟩
                   case rest => as_aux_lemma =>
                    clear HC63; try clear c28; try clear c64; try clear c64b0; try clear p64; try clear c66; try clear c66b0; try clear c67; try clear c67b0; try clear c69; try clear c69b0; try clear c70; try clear c70b0; try clear hcz71_0; try clear hcz71_1; try clear hcz71_2; try clear hcz71_3; try clear hcz72_0; try clear hcz72_1; try clear hcz72_2; try clear hcz72_3; try clear hfz71_0; try clear hfz71_1; try clear hfz71_2; try clear hfz71_3; try clear hfz72_0; try clear hfz72_1; try clear hfz72_2; try clear hfz72_3; try clear hx284_0; try clear hx285_0; try clear p284; try clear p285; try clear q284; try clear q285
                    obtain ⟨kq, x121_62, rfl, HA, HJ62, HO_7, HO_8, HO_13, BK257, HB⟩ := hcut
                    cases kq with
                    | zero => exact absurd HA.out (by simp [spec_l17Reach.j5])
                    | succ kj62 =>
                     have H := HA.out
                     clear HA
                     simp only [spec_l17Reach.j5] at H
                     have HC73 := asd H
                     clear H
                     go_upto_if 121 with (fail)
                     go_cut [13] (fun v13 wc => ∃ (kq : Nat) (x13_72 : List Int), Aside0 (spec_l17Reach.j6 kq x7_1 x8_1 (wrap64 (x9_1 + t268)) x10_1 (wrap64 (Int.tdiv (rd x8_1 x10_1) (wrap64 (a0_1 + 1)))) (Int.tmod (rd x8_1 x10_1) (wrap64 (a0_1 + 1))) x13_72 a0_0 a0_1 l0_2 l0_3 = some r) ∧ Aside0 (kq ≤ kj62) ∧ Aside0 (Kd.R Kd.bool 4 wc w.heap.size (fun _ => True) (.slice (some ⟨go10, 0, none⟩) x7_1.length co10) x7_1) ∧ Aside0 (Kd.R (Kd.int .i64) 3 wc w.heap.size (fun k_ => some k_ ≠ (v13 : Value).ownBlock) (.slice (some ad266) x8_1.length co26) x8_1) ∧ Aside0 (Kd.R (Kd.int .i64) 3 wc w.heap.size (fun k_ => some k_ ≠ ((.slice (some ad266) x8_1.length co26) : Value).ownBlock) v13 x13_72) ∧ Aside0 (wc.heap[gb257]? = some (.cells #[.int .i64 a0_0, .int .i64 a0_1, (.slice A0_2 l0_2.length c0_2), (.slice A0_3 l0_3.length c0_3)] 25 (0, 0))) ∧ Aside0 (Below w.heap.size w wc))
                     case first =>
                      have H := HC73.out
                      clear HC73
                      by_cases c74 : x121_62 = true
                      ·subst c74
                       have H1 : (if 0 ≤ x10_1 then (if x10_1 < (x8_1.length : Int) then (if x13_56.length < 17592186044416 then (spec_l17Reach.j6 kj62 x7_1 x8_1 (wrap64 (x9_1 + t268)) x10_1 (wrap64 (Int.tdiv (rd x8_1 x10_1) (wrap64 (a0_1 + 1)))) (Int.tmod (rd x8_1 x10_1) (wrap64 (a0_1 + 1))) (x13_56 ++ [wrap64 ((wrap64 ((rd x8_1 x10_1) + a0_1)) + 1)]) a0_0 a0_1 l0_2 l0_3) else (none)) else (none)) else (none)) = some r := by rw [if_pos rfl] at H; exact H
                       clear H
                       have H := H1
                       clear H1
                       by_cases c75 : 0 ≤ x10_1
                       ·rw [if_pos c75] at H
                        have c75b0 : decide (0 ≤ x10_1) = true := decide_eq_true c75
                        clear c75
                        (first | rw [c75b0] | (simp only [i64_w, i32_w]; rw [c75b0]) | skip)
                        by_cases c76 : x10_1 < (x8_1.length : Int)
                        ·rw [if_pos c76] at H
                         have c76b0 : decide (x10_1 < (x8_1.length : Int)) = true := decide_eq_true c76
                         clear c76
                         by_cases c77 : x13_56.length < 17592186044416
                         ·rw [if_pos c77] at H
                          have LMc77 := asd c77
                          clear c77
                          obtain ⟨y287, hy287⟩ : ∃ y_ : List Int, y_ = (x13_56 ++ [wrap64 ((wrap64 ((rd x8_1 x10_1) + a0_1)) + 1)]) := ⟨_, rfl⟩
                          replace H : (spec_l17Reach.j6 kj62 x7_1 x8_1 (wrap64 (x9_1 + t268)) x10_1 (wrap64 (Int.tdiv (rd x8_1 x10_1) (wrap64 (a0_1 + 1)))) (Int.tmod (rd x8_1 x10_1) (wrap64 (a0_1 + 1))) y287 a0_0 a0_1 l0_2 l0_3) = some r := by first | (rw [hy287]; with_reducible exact H) | (have H2_ := (Option.bind_some _ _).symm.trans H; rw [hy287]; with_reducible exact H2_) | (have H2_ := (Option.bind_some _ _).symm.trans H; with_reducible exact H2_) | with_reducible exact H | (rw [hy287]; exact H) | exact H
                          have Ny287 := asd hy287
                          clear hy287
                          have H' := asd H
                          clear H
                          try go_wp2
                          have n0_ := asd (Kd.R_drew HO_7.out)
                          have n1_ := asd (Kd.R_drew HO_8.out)
                          have n2_ := asd (Kd.R_drew HO_13.out)
                          have n3_ := asd (blk_drew BK257.out)
                          have n4_ := asd (below_drew1 HB.out)
                          clear HO_7 HO_8 HO_13 BK257 HB
                          have HO_7 := n0_
                          have HO_8 := n1_
                          have HO_13 := n2_
                          have BK257 := n3_
                          have HB := n4_
                          clear n0_ n1_ n2_ n3_ n4_
                          have p286 : 0 ≤ (x10_1 : Int) := of_decide_eq_true (by first | (with_reducible assumption) | assumption)
                          have q286 : x10_1 < (x8_1.length : Int) := of_decide_eq_true (by first | (with_reducible assumption) | assumption)
                          obtain ⟨ad286, e286, hx286_0⟩ := Kd.at_int (Kd.R_reads' HO_8.out).2.2 x10_1 p286 q286
                          obtain rfl : ad266 = ad286 := (by injection e286)
                          replace p286 := eq_true p286
                          replace q286 := eq_true q286
                          refine start_ (n := 12) (S := fun w' => w'.cell? ⟨gb257, 0, none⟩ = some (.int .i64 a0_0) ∧ w'.cell? ⟨gb257, 1, none⟩ = some (.int .i64 a0_1) ∧ w'.cell? ⟨gb257, 2, none⟩ = some (.slice A0_2 l0_2.length c0_2) ∧ w'.cell? ⟨gb257, 3, none⟩ = some (.slice A0_3 l0_3.length c0_3) ∧ w'.cell? (ad266.add (x10_1).toNat) = some (.int .i64 (rd x8_1 x10_1))) (ds := [9, 10]) #[false, false, false, false, false, false, false, false, false, false, false, false] (by kernel_rfl) rfl rfl ⟨(blk_cell BK257.out 0).trans rfl, (blk_cell BK257.out 1).trans rfl, (blk_cell BK257.out 2).trans rfl, (blk_cell BK257.out 3).trans rfl, hx286_0⟩ (fun hHeld => ?_); refine with_tabW spec_l17Reach.tab17 spec_l17Reach.bits17 (fun HT_ HW_ => ?_)
                          generalize wc.drew = w78 at HO_7 HO_8 HO_13 BK257 HB hx286_0 hHeld ⊢
                          refine pure_ (i := 0) (N := some 122) (v := ?_) (a' := ?_) #[true, false, false, false, false, false, false, false, false, false, false, false] rfl rfl (any_of HT_.out (by kernel_rfl)) (fun _ _ _ h => h) (Or.inl ⟨by rfl, ?_⟩) ?_ ?_
                          rotate_left
                          ·intro w'
                           go_simp
                           with_reducible rfl
                          rotate_left
                          ·simp only [Act.put, List.setIfInBounds_toArray, List.set_cons_zero, List.set_cons_succ, i64_w, i32_w]
                           rfl
                          refine pure_ (i := 1) (N := some 123) (v := ?_) (a' := ?_) #[true, true, false, false, false, false, false, false, false, false, false, false] rfl rfl (any_of HT_.out (by kernel_rfl)) (fun _ _ _ h => h) (Or.inl ⟨by rfl, ?_⟩) ?_ ?_
                          rotate_left
                          ·intro w'
                           go_simp
                           with_reducible rfl
                          rotate_left
                          ·simp only [Act.put, List.setIfInBounds_toArray, List.set_cons_zero, List.set_cons_succ, i64_w, i32_w]
                           rfl
                          refine pure_ (i := 2) (N := some 124) (v := ?_) (a' := ?_) #[true, true, true, false, false, false, false, false, false, false, false, false] rfl rfl (any_of HT_.out (by kernel_rfl)) (fun _ _ _ h => h) (Or.inl ⟨by rfl, ?_⟩) ?_ ?_
                          rotate_left
                          ·intro w'
                           go_simp
                           with_reducible rfl
                          rotate_left
                          ·simp only [Act.put, List.setIfInBounds_toArray, List.set_cons_zero, List.set_cons_succ, i64_w, i32_w]
                           rfl
                          refine pure_ (i := 3) (N := some 125) (v := ?_) (a' := ?_) #[true, true, true, true, false, false, false, false, false, false, false, false] rfl rfl (any_of HT_.out (by kernel_rfl)) (fun _ _ _ h => h) (Or.inl ⟨by rfl, ?_⟩) ?_ ?_
                          rotate_left
                          ·intro w'
                           go_simp
                           with_reducible rfl
                          rotate_left
                          ·simp only [Act.put, List.setIfInBounds_toArray, List.set_cons_zero, List.set_cons_succ, i64_w, i32_w]
                           rfl
                          refine pure_ (i := 5) (N := some 127) (v := ?_) (a' := ?_) #[true, true, true, true, false, true, false, false, false, false, false, false] rfl rfl (any_of HT_.out (by kernel_rfl)) (fun _ _ _ h => h) (Or.inl ⟨by rfl, ?_⟩) ?_ ?_
                          rotate_left
                          ·intro w'
                           go_simp
                           with_reducible rfl
                          rotate_left
                          ·simp only [Act.put, List.setIfInBounds_toArray, List.set_cons_zero, List.set_cons_succ, i64_w, i32_w]
                           rfl
                          refine take_ (i := 4) (N := some 126) (v := ?_) (a' := ?_) #[true, true, true, true, true, true, false, false, false, false, false, false] rfl rfl (take_ofW HT_.out HW_.out (by kernel_rfl)) (fun _ _ _ h => h) (Or.inl ⟨by rfl, ?_⟩) hHeld ?_ ?_
                          rotate_left
                          ·rintro w' ⟨s0, s1, s2, s3, s4⟩
                           go_simp
                           with_reducible rfl
                          rotate_left
                          ·simp only [Act.put, List.setIfInBounds_toArray, List.set_cons_zero, List.set_cons_succ, i64_w, i32_w]
                           rfl
                          refine take_ (i := 6) (N := some 128) (v := ?_) (a' := ?_) #[true, true, true, true, true, true, true, false, false, false, false, false] rfl rfl (take_ofW HT_.out HW_.out (by kernel_rfl)) (fun _ _ _ h => h) (Or.inl ⟨by rfl, ?_⟩) hHeld ?_ ?_
                          rotate_left
                          ·rintro w' ⟨s0, s1, s2, s3, s4⟩
                           go_simp
                           with_reducible rfl
                          rotate_left
                          ·simp only [Act.put, List.setIfInBounds_toArray, List.set_cons_zero, List.set_cons_succ, i64_w, i32_w]
                           rfl
                          refine pure_ (i := 7) (N := some 129) (v := ?_) (a' := ?_) #[true, true, true, true, true, true, true, true, false, false, false, false] rfl rfl (any_of HT_.out (by kernel_rfl)) (fun _ _ _ h => h) (Or.inl ⟨by rfl, ?_⟩) ?_ ?_
                          rotate_left
                          ·intro w'
                           go_simp
                           with_reducible rfl
                          rotate_left
                          ·simp only [Act.put, List.setIfInBounds_toArray, List.set_cons_zero, List.set_cons_succ, i64_w, i32_w]
                           rfl
                          refine pure_ (i := 8) (N := some 130) (v := ?_) (a' := ?_) #[true, true, true, true, true, true, true, true, true, false, false, false] rfl rfl (any_of HT_.out (by kernel_rfl)) (fun _ _ _ h => h) (Or.inl ⟨by rfl, ?_⟩) ?_ ?_
                          rotate_left
                          ·intro w'
                           go_simp
                           with_reducible rfl
                          rotate_left
                          ·simp only [Act.put, List.setIfInBounds_toArray, List.set_cons_zero, List.set_cons_succ, i64_w, i32_w]
                           rfl
                          refine last_ (i := 9) (N := some 131) #[true, true, true, true, true, true, true, true, true, true, false, false] rfl rfl (one_of HT_.out (by kernel_rfl)) (by decide) (fun K hK => ?_)
                          refine value_ (w1 := ?_) (v := ?_) (by rfl) rfl ?_ ?_
                          rotate_left 2
                          ·go_simp
                           constructor
                           ·rfl
                           ·rfl
                          refine hK.out _ _ ?_
                          clear hK K
                          refine norm_ (a' := ?_) ?_ ?_
                          rotate_left
                          ·show Act.put _ (some 131) _ = _
                           simp only [Act.put, List.setIfInBounds_toArray, List.set_cons_zero, List.set_cons_succ, i64_w, i32_w]
                           rfl
                          refine last_ (i := 10) (N := some 132) #[true, true, true, true, true, true, true, true, true, true, true, false] rfl rfl (one_of HT_.out (by kernel_rfl)) (by decide) (fun K hK => ?_)
                          refine Kd.R_append_step (Kd.int .i64) (w0 := w) w.heap.size (by rfl) (.tmp 122) (.tmp 131) 35 3 (.int .i64 0) 8 rfl Try.underlying35 info3 rfl (by decide) (by omega) u13 x13_56 (wrap64 ((wrap64 ((rd x8_1 x10_1) + a0_1)) + 1)) [.int .i64 (wrap64 ((wrap64 ((rd x8_1 x10_1) + a0_1)) + 1))] (fun k_ => some k_ ≠ (.slice (some ad266) x8_1.length co26 : Value).ownBlock) (fun _ => False) rfl rfl ?aP (fun _ hk => hk.elim) ?aF ?aO ?aB ?aS ?aL ?_
                          (case aP => exact rfl)
                          (case aB => exact (by repeat (first | (with_reducible first | exact HB.out | apply below_alloc | apply pw_below_drewN | apply below_drew1 | refine below_set ?_ GE257.out) | exact HB.out)))
                          (case aF => exact (fun k_ hk => Kd.fresh' (Kd.R_lt (by (with_reducible repeat (first | apply Kd.R_alloc | apply Kd.R_drewN | apply Kd.R_drew)); exact HO_8.out)) k_ hk))
                          (case aO => exact (by (with_reducible repeat (first | apply Kd.R_alloc | apply Kd.R_drewN | apply Kd.R_drew)); exact HO_13.out))
                          (case aS => exact (below_size (by repeat (first | (with_reducible first | exact HB.out | apply below_alloc | apply pw_below_drewN | apply below_drew1 | refine below_set ?_ GE257.out) | exact HB.out))))
                          (case aL => have := LMc77.out; omega)
                          intro v288 w79 ho hb hg hat
                          rw [← Ny287.out] at ho
                          have n0_ := asd (Kd.R_over' (by (with_reducible repeat (first | apply Kd.R_alloc | apply Kd.R_drewN | apply Kd.R_drew)); exact HO_7.out) (Kd.R_typed (by (with_reducible repeat (first | apply Kd.R_alloc | apply Kd.R_drewN | apply Kd.R_drew)); exact HO_13.out)) (by decide) hg)
                          have n1_ := asd (Kd.R_after (ok := (fun _ => True)) (by (with_reducible repeat (first | apply Kd.R_alloc | apply Kd.R_drewN | apply Kd.R_drew)); exact Kd.R_mono HO_8.out (fun _ hk => ⟨trivial, hk⟩)) hg hat)
                          have n2_ := asd (blk_grown (g := gb257) (o := .cells #[.int .i64 a0_0, .int .i64 a0_1, .slice A0_2 l0_2.length c0_2, .slice A0_3 l0_3.length c0_3] 25 (0, 0)) (by (with_reducible repeat (first | refine blk_drewN ?_ _ | refine blk_drew ?_ | refine blk_alloc ?_ _)); exact BK257.out) hg (Kd.R_ne HO_13.out BK257.out (by decide)))
                          have n3_ := asd (hb)
                          have n4_ := asd (ho)
                          clear HO_7 HO_8 BK257 HB HO_13
                          have HO_7 := n0_
                          have HO_8 := n1_
                          have BK257 := n2_
                          have HB := n3_
                          have HO289 := n4_
                          clear n0_ n1_ n2_ n3_ n4_ ho hb hg hat
                          refine hK.out _ _ ?_
                          clear hK K
                          refine norm_ (a' := ?_) ?_ ?_
                          rotate_left
                          ·show Act.put _ (some 132) _ = _
                           simp only [Act.put, List.setIfInBounds_toArray, List.set_cons_zero, List.set_cons_succ, i64_w, i32_w]
                           rfl
                          refine pure_ (i := 11) (N := some 13) (v := ?_) (a' := ?_) #[true, true, true, true, true, true, true, true, true, true, true, true] rfl rfl (any_of HT_.out (by kernel_rfl)) (fun _ _ _ h => h) (Or.inl ⟨by rfl, ?_⟩) ?_ ?_
                          rotate_left
                          ·intro w'
                           go_simp
                           with_reducible rfl
                          rotate_left
                          ·simp only [Act.put, List.setIfInBounds_toArray, List.set_cons_zero, List.set_cons_succ, i64_w, i32_w]
                           rfl
                          refine done_ (done_of HT_.out (by kernel_rfl)) ?_
                          try go_wp2
                          go_meet
                          case rel => exact ⟨_, (y287), H', ⟨by have := HK1.out; have := HJ24.out; have := HJ41.out; have := HJ47.out; have := HJ56.out; have := HJ62.out; first | omega | exact Nat.le_refl _⟩, ⟨by (try simp only [hl7_1]); (with_reducible repeat (first | apply Kd.R_alloc | apply Kd.R_drewN | apply Kd.R_drew)); exact HO_7.out⟩, ⟨by (try simp only [hl7_1]); (with_reducible repeat (first | apply Kd.R_alloc | apply Kd.R_drewN | apply Kd.R_drew)); exact Kd.R_mono HO_8.out (fun _ hk => hk.2)⟩, ⟨by (try simp only [hl7_1]); (with_reducible repeat (first | apply Kd.R_alloc | apply Kd.R_drewN | apply Kd.R_drew)); exact HO289.out⟩, ⟨by (try simp only [hl7_1]); (with_reducible repeat (first | refine blk_drewN ?_ _ | refine blk_drew ?_ | refine blk_alloc ?_ _)); exact BK257.out⟩, ⟨by repeat (first | (with_reducible first | exact HB.out | apply below_alloc | apply pw_below_drewN | apply below_drew1 | refine below_set ?_ GE257.out) | exact HB.out)⟩⟩
                         ·rw [if_neg c77] at H
                          exact absurd H (by simp)
                        ·rw [if_neg c76] at H
                         exact absurd H (by simp)
                       ·rw [if_neg c75] at H
                        exact absurd H (by simp)
                      ·replace c74 := Bool.eq_false_iff.mpr c74
                       subst c74
                       have H1 : (spec_l17Reach.j6 kj62 x7_1 x8_1 (wrap64 (x9_1 + t268)) x10_1 (wrap64 (Int.tdiv (rd x8_1 x10_1) (wrap64 (a0_1 + 1)))) (Int.tmod (rd x8_1 x10_1) (wrap64 (a0_1 + 1))) x13_56 a0_0 a0_1 l0_2 l0_3) = some r := by rw [if_neg (show ¬ (false = true) by decide)] at H; exact H
                       clear H
                       have H := H1
                       clear H1
                       have H' := asd H
                       clear H
                       go_wp2
                       go_meet
                       case rel => exact ⟨_, (x13_56), H', ⟨by have := HK1.out; have := HJ24.out; have := HJ41.out; have := HJ47.out; have := HJ56.out; have := HJ62.out; first | omega | exact Nat.le_refl _⟩, ⟨by (try simp only [hl7_1]); (with_reducible repeat (first | apply Kd.R_alloc | apply Kd.R_drewN | apply Kd.R_drew)); exact HO_7.out⟩, ⟨by (try simp only [hl7_1]); (with_reducible repeat (first | apply Kd.R_alloc | apply Kd.R_drewN | apply Kd.R_drew)); exact HO_8.out⟩, ⟨by (try simp only [hl7_1]); (with_reducible repeat (first | apply Kd.R_alloc | apply Kd.R_drewN | apply Kd.R_drew)); exact HO_13.out⟩, ⟨by (try simp only [hl7_1]); (with_reducible repeat (first | refine blk_drewN ?_ _ | refine blk_drew ?_ | refine blk_alloc ?_ _)); exact BK257.out⟩, ⟨by repeat (first | (with_reducible first | exact HB.out | apply below_alloc | apply pw_below_drewN | apply below_drew1 | refine below_set ?_ GE257.out) | exact HB.out)⟩⟩
                     case rest => as_aux_lemma =>
                      clear HC73; try clear c74; try clear c75; try clear c75b0; try clear c76; try clear c76b0; try clear c77; try clear hx286_0; try clear p286; try clear q286
                      obtain ⟨kq, x13_72, HA, HJ72, HO_7, HO_8, HO_13, BK257, HB⟩ := hcut
                      cases kq with
                      | zero => exact absurd HA.out (by simp [spec_l17Reach.j6])
                      | succ kj72 =>
                       have H := HA.out
                       clear HA
                       simp only [spec_l17Reach.j6] at H
                       have HC80 := asd H
                       clear H
                       go_upto_region 18 with (fail)
                       go_cut [145] (fun v145 wc => ∃ (kq : Nat) (x145_79 : Bool), v145 = .bool x145_79 ∧ Aside0 (spec_l17Reach.j7 kq x7_1 x8_1 (wrap64 (x9_1 + t268)) x10_1 x13_72 x145_79 a0_0 a0_1 l0_2 l0_3 = some r) ∧ Aside0 (kq ≤ kj72) ∧ Aside0 (Kd.R Kd.bool 4 wc w.heap.size (fun _ => True) (.slice (some ⟨go10, 0, none⟩) x7_1.length co10) x7_1) ∧ Aside0 (Kd.R (Kd.int .i64) 3 wc w.heap.size (fun k_ => some k_ ≠ (u13 : Value).ownBlock) (.slice (some ad266) x8_1.length co26) x8_1) ∧ Aside0 (Kd.R (Kd.int .i64) 3 wc w.heap.size (fun k_ => some k_ ≠ ((.slice (some ad266) x8_1.length co26) : Value).ownBlock) u13 x13_72) ∧ Aside0 (wc.heap[gb257]? = some (.cells #[.int .i64 a0_0, .int .i64 a0_1, (.slice A0_2 l0_2.length c0_2), (.slice A0_3 l0_3.length c0_3)] 25 (0, 0))) ∧ Aside0 (Below w.heap.size w wc))
                       case first =>
                        have H := HC80.out
                        clear HC80
                        by_cases c81 : (wrap64 (Int.tdiv (rd x8_1 x10_1) (wrap64 (a0_1 + 1)))) > 0
                        ·rw [if_pos c81] at H
                         have c81b0 : decide (0 < (wrap64 (Int.tdiv (rd x8_1 x10_1) (wrap64 (a0_1 + 1))))) = true := decide_eq_true c81
                         (try rw [hji34] at c81b0)
                         (try rw [hji50] at c81b0)
                         (try rw [hji68] at c81b0)
                         clear c81
                         (first | rw [c81b0] | (simp only [i64_w, i32_w]; rw [c81b0]) | skip)
                         obtain ⟨ji82, hji82⟩ : ∃ j_ : Int, (Int.tmod (rd x8_1 x10_1) (wrap64 (a0_1 + 1))) = j_ := ⟨_, rfl⟩
                         replace H : (if 0 ≤ (ji82) then (if (ji82) < (l0_3.length : Int) then (if 0 ≤ (wrap64 ((wrap64 (Int.tdiv (rd x8_1 x10_1) (wrap64 (a0_1 + 1)))) - 1)) then (if (wrap64 ((wrap64 (Int.tdiv (rd x8_1 x10_1) (wrap64 (a0_1 + 1)))) - 1)) < ((rd_L1 l0_3 (ji82)).length : Int) then (spec_l17Reach.j7 kj72 x7_1 x8_1 (wrap64 (x9_1 + t268)) x10_1 x13_72 (rdOf false (rd_L1 l0_3 (ji82)) (wrap64 ((wrap64 (Int.tdiv (rd x8_1 x10_1) (wrap64 (a0_1 + 1)))) - 1))) a0_0 a0_1 l0_2 l0_3) else (none)) else (none)) else (none)) else (none)) = some r := by first | (rw [hji82] at H; exact H) | (simp only [hji82] at H ⊢; exact H)
                         by_cases c83 : 0 ≤ (ji82)
                         ·rw [if_pos c83] at H
                          have c83b0 : decide (0 ≤ (ji82)) = true := decide_eq_true c83
                          clear c83
                          by_cases c84 : (ji82) < (l0_3.length : Int)
                          ·rw [if_pos c84] at H
                           have c84b0 : decide ((ji82) < (l0_3.length : Int)) = true := decide_eq_true c84
                           clear c84
                           obtain ⟨ji85, hji85⟩ : ∃ j_ : Int, (wrap64 ((wrap64 (Int.tdiv (rd x8_1 x10_1) (wrap64 (a0_1 + 1)))) - 1)) = j_ := ⟨_, rfl⟩
                           replace H : (if 0 ≤ (ji85) then (if (ji85) < ((rd_L1 l0_3 (ji82)).length : Int) then (spec_l17Reach.j7 kj72 x7_1 x8_1 (wrap64 (x9_1 + t268)) x10_1 x13_72 (rdOf false (rd_L1 l0_3 (ji82)) (ji85)) a0_0 a0_1 l0_2 l0_3) else (none)) else (none)) = some r := by first | (rw [hji85] at H; exact H) | (simp only [hji85] at H ⊢; exact H)
                           have hji85w : (IntKind.i64.wrap ((wrap64 (Int.tdiv (rd x8_1 x10_1) (wrap64 (a0_1 + 1)))) - 1)) = ji85 := (i64_w _).trans hji85
                           by_cases c86 : 0 ≤ (ji85)
                           ·rw [if_pos c86] at H
                            have c86b0 : decide (0 ≤ (ji85)) = true := decide_eq_true c86
                            clear c86
                            by_cases c87 : (ji85) < ((rd_L1 l0_3 (ji82)).length : Int)
                            ·rw [if_pos c87] at H
                             have c87b0 : decide ((ji85) < ((rd_L1 l0_3 (ji82)).length : Int)) = true := decide_eq_true c87
                             clear c87
                             have H' := asd H
                             clear H
                             have hcz88_0 : wc.cell? ⟨gb257, 0, none⟩ = some (.int .i64 a0_0) := (blk_cell BK257.out 0).trans rfl
                             have hcz88_1 : wc.cell? ⟨gb257, 1, none⟩ = some (.int .i64 a0_1) := (blk_cell BK257.out 1).trans rfl
                             have hcz88_2 : wc.cell? ⟨gb257, 2, none⟩ = some (.slice A0_2 l0_2.length c0_2) := (blk_cell BK257.out 2).trans rfl
                             have hcz88_3 : wc.cell? ⟨gb257, 3, none⟩ = some (.slice A0_3 l0_3.length c0_3) := (blk_cell BK257.out 3).trans rfl
                             have hfz88_0 := blk_frozen BK257.out 0
                             have hfz88_1 := blk_frozen BK257.out 1
                             have hfz88_2 := blk_frozen BK257.out 2
                             have hfz88_3 := blk_frozen BK257.out 3
                             have p290 : 0 ≤ ((ji82) : Int) := of_decide_eq_true (by first | (with_reducible assumption) | assumption)
                             have q290 : (ji82) < (l0_3.length : Int) := of_decide_eq_true (by first | (with_reducible assumption) | assumption)
                             obtain ⟨ad290, A290_0, c290_0, e290, hx290_0, hl290_0, hi290_0⟩ := at_L1 HR0_3.out (ji82) p290 q290
                             cases e290
                             replace hx290_0 := (HB.out.cell (World.block_lt_of_cell? w _ hx290_0)).trans hx290_0
                             have HR290_0 := asd hi290_0
                             have HC290_0 := asd hl290_0
                             clear hi290_0 hl290_0
                             replace p290 := eq_true p290
                             replace q290 := eq_true q290
                             have p291 : 0 ≤ ((ji85) : Int) := of_decide_eq_true (by first | (with_reducible assumption) | assumption)
                             have q291 : (ji85) < ((rd_L1 l0_3 (ji82)).length : Int) := of_decide_eq_true (by first | (with_reducible assumption) | assumption)
                             obtain ⟨ad291, e291, hx291_0⟩ := Kd.at_bool HR290_0.out (ji85) p291 q291
                             cases e291
                             replace hx291_0 := (HB.out.cell (World.block_lt_of_cell? w _ hx291_0)).trans hx291_0
                             replace p291 := eq_true p291
                             replace q291 := eq_true q291
                             go_wp2
                             (try subst hji82); (try subst hji85)
                             go_meet
                             case rel => exact ⟨_, (rdOf false (rd_L1 l0_3 ((Int.tmod (rd x8_1 x10_1) (wrap64 (a0_1 + 1))))) ((wrap64 ((wrap64 (Int.tdiv (rd x8_1 x10_1) (wrap64 (a0_1 + 1)))) - 1)))), (by first | rfl | (simp; done) | (simp [*]; done)), H', ⟨by have := HK1.out; have := HJ24.out; have := HJ41.out; have := HJ47.out; have := HJ56.out; have := HJ62.out; have := HJ72.out; first | omega | exact Nat.le_refl _⟩, ⟨by (try simp only [hl7_1]); (with_reducible repeat (first | apply Kd.R_alloc | apply Kd.R_drewN | apply Kd.R_drew)); exact HO_7.out⟩, ⟨by (try simp only [hl7_1]); (with_reducible repeat (first | apply Kd.R_alloc | apply Kd.R_drewN | apply Kd.R_drew)); exact HO_8.out⟩, ⟨by (try simp only [hl7_1]); (with_reducible repeat (first | apply Kd.R_alloc | apply Kd.R_drewN | apply Kd.R_drew)); exact HO_13.out⟩, ⟨by (try simp only [hl7_1]); (with_reducible repeat (first | refine blk_drewN ?_ _ | refine blk_drew ?_ | refine blk_alloc ?_ _)); exact BK257.out⟩, ⟨by repeat (first | (with_reducible first | exact HB.out | apply below_alloc | apply pw_below_drewN | apply below_drew1 | refine below_set ?_ GE257.out) | exact HB.out)⟩⟩
                            ·rw [if_neg c87] at H
                             exact absurd H (by simp)
                           ·rw [if_neg c86] at H
                            exact absurd H (by simp)
                          ·rw [if_neg c84] at H
                           exact absurd H (by simp)
                         ·rw [if_neg c83] at H
                          exact absurd H (by simp)
                        ·rw [if_neg c81] at H
                         have c81b0 : decide (0 < (wrap64 (Int.tdiv (rd x8_1 x10_1) (wrap64 (a0_1 + 1))))) = false := decide_eq_false c81
                         (try rw [hji34] at c81b0)
                         (try rw [hji50] at c81b0)
                         (try rw [hji68] at c81b0)
                         clear c81
                         (first | rw [c81b0] | (simp only [i64_w, i32_w]; rw [c81b0]) | skip)
                         have H' := asd H
                         clear H
                         go_wp2
                         go_meet
                         case rel => exact ⟨_, (false), (by first | rfl | (simp; done) | (simp [*]; done)), H', ⟨by have := HK1.out; have := HJ24.out; have := HJ41.out; have := HJ47.out; have := HJ56.out; have := HJ62.out; have := HJ72.out; first | omega | exact Nat.le_refl _⟩, ⟨by (try simp only [hl7_1]); (with_reducible repeat (first | apply Kd.R_alloc | apply Kd.R_drewN | apply Kd.R_drew)); exact HO_7.out⟩, ⟨by (try simp only [hl7_1]); (with_reducible repeat (first | apply Kd.R_alloc | apply Kd.R_drewN | apply Kd.R_drew)); exact HO_8.out⟩, ⟨by (try simp only [hl7_1]); (with_reducible repeat (first | apply Kd.R_alloc | apply Kd.R_drewN | apply Kd.R_drew)); exact HO_13.out⟩, ⟨by (try simp only [hl7_1]); (with_reducible repeat (first | refine blk_drewN ?_ _ | refine blk_drew ?_ | refine blk_alloc ?_ _)); exact BK257.out⟩, ⟨by repeat (first | (with_reducible first | exact HB.out | apply below_alloc | apply pw_below_drewN | apply below_drew1 | refine below_set ?_ GE257.out) | exact HB.out)⟩⟩
                       case rest => as_aux_lemma =>
                        clear HC80; try clear c29; try clear p29; try clear q29; try clear hx29; try clear c81; try clear c81b0; try clear c83; try clear c83b0; try clear c84; try clear c84b0; try clear c86; try clear c86b0; try clear c87; try clear c87b0; try clear hcz88_0; try clear hcz88_1; try clear hcz88_2; try clear hcz88_3; try clear hfz88_0; try clear hfz88_1; try clear hfz88_2; try clear hfz88_3; try clear hx290_0; try clear hx291_0; try clear p290; try clear p291; try clear q290; try clear q291
                        obtain ⟨kq, x145_79, rfl, HA, HJ79, HO_7, HO_8, HO_13, BK257, HB⟩ := hcut
                        cases kq with
                        | zero => exact absurd HA.out (by simp [spec_l17Reach.j7])
                        | succ kj79 =>
                         have H := HA.out
                         clear HA
                         simp only [spec_l17Reach.j7] at H
                         have HC89 := asd H
                         clear H
                         go_upto_if 145 with (fail)
                         go_cut [13] (fun v13 wc => ∃ (kq : Nat) (x13_88 : List Int), Aside0 (spec_l17Reach.j8 kq x7_1 x8_1 (wrap64 (x9_1 + t268)) x10_1 x13_88 a0_0 a0_1 l0_2 l0_3 = some r) ∧ Aside0 (kq ≤ kj79) ∧ Aside0 (Kd.R Kd.bool 4 wc w.heap.size (fun _ => True) (.slice (some ⟨go10, 0, none⟩) x7_1.length co10) x7_1) ∧ Aside0 (Kd.R (Kd.int .i64) 3 wc w.heap.size (fun k_ => some k_ ≠ (v13 : Value).ownBlock) (.slice (some ad266) x8_1.length co26) x8_1) ∧ Aside0 (Kd.R (Kd.int .i64) 3 wc w.heap.size (fun k_ => some k_ ≠ ((.slice (some ad266) x8_1.length co26) : Value).ownBlock) v13 x13_88) ∧ Aside0 (wc.heap[gb257]? = some (.cells #[.int .i64 a0_0, .int .i64 a0_1, (.slice A0_2 l0_2.length c0_2), (.slice A0_3 l0_3.length c0_3)] 25 (0, 0))) ∧ Aside0 (Below w.heap.size w wc))
                         case first =>
                          have H := HC89.out
                          clear HC89
                          by_cases c90 : x145_79 = true
                          ·subst c90
                           have H1 : (if 0 ≤ x10_1 then (if x10_1 < (x8_1.length : Int) then (if x13_72.length < 17592186044416 then (spec_l17Reach.j8 kj79 x7_1 x8_1 (wrap64 (x9_1 + t268)) x10_1 (x13_72 ++ [wrap64 ((wrap64 ((rd x8_1 x10_1) - a0_1)) - 1)]) a0_0 a0_1 l0_2 l0_3) else (none)) else (none)) else (none)) = some r := by rw [if_pos rfl] at H; exact H
                           clear H
                           have H := H1
                           clear H1
                           by_cases c91 : 0 ≤ x10_1
                           ·rw [if_pos c91] at H
                            have c91b0 : decide (0 ≤ x10_1) = true := decide_eq_true c91
                            clear c91
                            (first | rw [c91b0] | (simp only [i64_w, i32_w]; rw [c91b0]) | skip)
                            by_cases c92 : x10_1 < (x8_1.length : Int)
                            ·rw [if_pos c92] at H
                             have c92b0 : decide (x10_1 < (x8_1.length : Int)) = true := decide_eq_true c92
                             clear c92
                             by_cases c93 : x13_72.length < 17592186044416
                             ·rw [if_pos c93] at H
                              have LMc93 := asd c93
                              clear c93
                              obtain ⟨y293, hy293⟩ : ∃ y_ : List Int, y_ = (x13_72 ++ [wrap64 ((wrap64 ((rd x8_1 x10_1) - a0_1)) - 1)]) := ⟨_, rfl⟩
                              replace H : (spec_l17Reach.j8 kj79 x7_1 x8_1 (wrap64 (x9_1 + t268)) x10_1 y293 a0_0 a0_1 l0_2 l0_3) = some r := by first | (rw [hy293]; with_reducible exact H) | (have H2_ := (Option.bind_some _ _).symm.trans H; rw [hy293]; with_reducible exact H2_) | (have H2_ := (Option.bind_some _ _).symm.trans H; with_reducible exact H2_) | with_reducible exact H | (rw [hy293]; exact H) | exact H
                              have Ny293 := asd hy293
                              clear hy293
                              have H' := asd H
                              clear H
                              try go_wp2
                              have n0_ := asd (Kd.R_drew HO_7.out)
                              have n1_ := asd (Kd.R_drew HO_8.out)
                              have n2_ := asd (Kd.R_drew HO_13.out)
                              have n3_ := asd (blk_drew BK257.out)
                              have n4_ := asd (below_drew1 HB.out)
                              clear HO_7 HO_8 HO_13 BK257 HB
                              have HO_7 := n0_
                              have HO_8 := n1_
                              have HO_13 := n2_
                              have BK257 := n3_
                              have HB := n4_
                              clear n0_ n1_ n2_ n3_ n4_
                              have p292 : 0 ≤ (x10_1 : Int) := of_decide_eq_true (by first | (with_reducible assumption) | assumption)
                              have q292 : x10_1 < (x8_1.length : Int) := of_decide_eq_true (by first | (with_reducible assumption) | assumption)
                              obtain ⟨ad292, e292, hx292_0⟩ := Kd.at_int (Kd.R_reads' HO_8.out).2.2 x10_1 p292 q292
                              obtain rfl : ad266 = ad292 := (by injection e292)
                              replace p292 := eq_true p292
                              replace q292 := eq_true q292
                              refine start_ (n := 12) (S := fun w' => w'.cell? ⟨gb257, 0, none⟩ = some (.int .i64 a0_0) ∧ w'.cell? ⟨gb257, 1, none⟩ = some (.int .i64 a0_1) ∧ w'.cell? ⟨gb257, 2, none⟩ = some (.slice A0_2 l0_2.length c0_2) ∧ w'.cell? ⟨gb257, 3, none⟩ = some (.slice A0_3 l0_3.length c0_3) ∧ w'.cell? (ad266.add (x10_1).toNat) = some (.int .i64 (rd x8_1 x10_1))) (ds := [9, 10]) #[false, false, false, false, false, false, false, false, false, false, false, false] (by kernel_rfl) rfl rfl ⟨(blk_cell BK257.out 0).trans rfl, (blk_cell BK257.out 1).trans rfl, (blk_cell BK257.out 2).trans rfl, (blk_cell BK257.out 3).trans rfl, hx292_0⟩ (fun hHeld => ?_); refine with_tabW spec_l17Reach.tab19 spec_l17Reach.bits19 (fun HT_ HW_ => ?_)
                              generalize wc.drew = w94 at HO_7 HO_8 HO_13 BK257 HB hx292_0 hHeld ⊢
                              refine pure_ (i := 0) (N := some 146) (v := ?_) (a' := ?_) #[true, false, false, false, false, false, false, false, false, false, false, false] rfl rfl (any_of HT_.out (by kernel_rfl)) (fun _ _ _ h => h) (Or.inl ⟨by rfl, ?_⟩) ?_ ?_
                              rotate_left
                              ·intro w'
                               go_simp
                               with_reducible rfl
                              rotate_left
                              ·simp only [Act.put, List.setIfInBounds_toArray, List.set_cons_zero, List.set_cons_succ, i64_w, i32_w]
                               rfl
                              refine pure_ (i := 1) (N := some 147) (v := ?_) (a' := ?_) #[true, true, false, false, false, false, false, false, false, false, false, false] rfl rfl (any_of HT_.out (by kernel_rfl)) (fun _ _ _ h => h) (Or.inl ⟨by rfl, ?_⟩) ?_ ?_
                              rotate_left
                              ·intro w'
                               go_simp
                               with_reducible rfl
                              rotate_left
                              ·simp only [Act.put, List.setIfInBounds_toArray, List.set_cons_zero, List.set_cons_succ, i64_w, i32_w]
                               rfl
                              refine pure_ (i := 2) (N := some 148) (v := ?_) (a' := ?_) #[true, true, true, false, false, false, false, false, false, false, false, false] rfl rfl (any_of HT_.out (by kernel_rfl)) (fun _ _ _ h => h) (Or.inl ⟨by rfl, ?_⟩) ?_ ?_
                              rotate_left
                              ·intro w'
                               go_simp
                               with_reducible rfl
                              rotate_left
                              ·simp only [Act.put, List.setIfInBounds_toArray, List.set_cons_zero, List.set_cons_succ, i64_w, i32_w]
                               rfl
                              refine pure_ (i := 3) (N := some 149) (v := ?_) (a' := ?_) #[true, true, true, true, false, false, false, false, false, false, false, false] rfl rfl (any_of HT_.out (by kernel_rfl)) (fun _ _ _ h => h) (Or.inl ⟨by rfl, ?_⟩) ?_ ?_
                              rotate_left
                              ·intro w'
                               go_simp
                               with_reducible rfl
                              rotate_left
                              ·simp only [Act.put, List.setIfInBounds_toArray, List.set_cons_zero, List.set_cons_succ, i64_w, i32_w]
                               rfl
                              refine pure_ (i := 5) (N := some 151) (v := ?_) (a' := ?_) #[true, true, true, true, false, true, false, false, false, false, false, false] rfl rfl (any_of HT_.out (by kernel_rfl)) (fun _ _ _ h => h) (Or.inl ⟨by rfl, ?_⟩) ?_ ?_
                              rotate_left
                              ·intro w'
                               go_simp
                               with_reducible rfl
                              rotate_left
                              ·simp only [Act.put, List.setIfInBounds_toArray, List.set_cons_zero, List.set_cons_succ, i64_w, i32_w]
                               rfl
                              refine take_ (i := 4) (N := some 150) (v := ?_) (a' := ?_) #[true, true, true, true, true, true, false, false, false, false, false, false] rfl rfl (take_ofW HT_.out HW_.out (by kernel_rfl)) (fun _ _ _ h => h) (Or.inl ⟨by rfl, ?_⟩) hHeld ?_ ?_
                              rotate_left
                              ·rintro w' ⟨s0, s1, s2, s3, s4⟩
                               go_simp
                               with_reducible rfl
                              rotate_left
                              ·simp only [Act.put, List.setIfInBounds_toArray, List.set_cons_zero, List.set_cons_succ, i64_w, i32_w]
                               rfl
                              refine take_ (i := 6) (N := some 152) (v := ?_) (a' := ?_) #[true, true, true, true, true, true, true, false, false, false, false, false] rfl rfl (take_ofW HT_.out HW_.out (by kernel_rfl)) (fun _ _ _ h => h) (Or.inl ⟨by rfl, ?_⟩) hHeld ?_ ?_
                              rotate_left
                              ·rintro w' ⟨s0, s1, s2, s3, s4⟩
                               go_simp
                               with_reducible rfl
                              rotate_left
                              ·simp only [Act.put, List.setIfInBounds_toArray, List.set_cons_zero, List.set_cons_succ, i64_w, i32_w]
                               rfl
                              refine pure_ (i := 7) (N := some 153) (v := ?_) (a' := ?_) #[true, true, true, true, true, true, true, true, false, false, false, false] rfl rfl (any_of HT_.out (by kernel_rfl)) (fun _ _ _ h => h) (Or.inl ⟨by rfl, ?_⟩) ?_ ?_
                              rotate_left
                              ·intro w'
                               go_simp
                               with_reducible rfl
                              rotate_left
                              ·simp only [Act.put, List.setIfInBounds_toArray, List.set_cons_zero, List.set_cons_succ, i64_w, i32_w]
                               rfl
                              refine pure_ (i := 8) (N := some 154) (v := ?_) (a' := ?_) #[true, true, true, true, true, true, true, true, true, false, false, false] rfl rfl (any_of HT_.out (by kernel_rfl)) (fun _ _ _ h => h) (Or.inl ⟨by rfl, ?_⟩) ?_ ?_
                              rotate_left
                              ·intro w'
                               go_simp
                               with_reducible rfl
                              rotate_left
                              ·simp only [Act.put, List.setIfInBounds_toArray, List.set_cons_zero, List.set_cons_succ, i64_w, i32_w]
                               rfl
                              refine last_ (i := 9) (N := some 155) #[true, true, true, true, true, true, true, true, true, true, false, false] rfl rfl (one_of HT_.out (by kernel_rfl)) (by decide) (fun K hK => ?_)
                              refine value_ (w1 := ?_) (v := ?_) (by rfl) rfl ?_ ?_
                              rotate_left 2
                              ·go_simp
                               constructor
                               ·rfl
                               ·rfl
                              refine hK.out _ _ ?_
                              clear hK K
                              refine norm_ (a' := ?_) ?_ ?_
                              rotate_left
                              ·show Act.put _ (some 155) _ = _
                               simp only [Act.put, List.setIfInBounds_toArray, List.set_cons_zero, List.set_cons_succ, i64_w, i32_w]
                               rfl
                              refine last_ (i := 10) (N := some 156) #[true, true, true, true, true, true, true, true, true, true, true, false] rfl rfl (one_of HT_.out (by kernel_rfl)) (by decide) (fun K hK => ?_)
                              refine Kd.R_append_step (Kd.int .i64) (w0 := w) w.heap.size (by rfl) (.tmp 146) (.tmp 155) 35 3 (.int .i64 0) 8 rfl Try.underlying35 info3 rfl (by decide) (by omega) u13 x13_72 (wrap64 ((wrap64 ((rd x8_1 x10_1) - a0_1)) - 1)) [.int .i64 (wrap64 ((wrap64 ((rd x8_1 x10_1) - a0_1)) - 1))] (fun k_ => some k_ ≠ (.slice (some ad266) x8_1.length co26 : Value).ownBlock) (fun _ => False) rfl rfl ?aP (fun _ hk => hk.elim) ?aF ?aO ?aB ?aS ?aL ?_
                              (case aP => exact rfl)
                              (case aB => exact (by repeat (first | (with_reducible first | exact HB.out | apply below_alloc | apply pw_below_drewN | apply below_drew1 | refine below_set ?_ GE257.out) | exact HB.out)))
                              (case aF => exact (fun k_ hk => Kd.fresh' (Kd.R_lt (by (with_reducible repeat (first | apply Kd.R_alloc | apply Kd.R_drewN | apply Kd.R_drew)); exact HO_8.out)) k_ hk))
                              (case aO => exact (by (with_reducible repeat (first | apply Kd.R_alloc | apply Kd.R_drewN | apply Kd.R_drew)); exact HO_13.out))
                              (case aS => exact (below_size (by repeat (first | (with_reducible first | exact HB.out | apply below_alloc | apply pw_below_drewN | apply below_drew1 | refine below_set ?_ GE257.out) | exact HB.out))))
                              (case aL => have := LMc93.out; omega)
                              intro v294 w95 ho hb hg hat
                              rw [← Ny293.out] at ho
                              have n0_ := asd (Kd.R_over' (by (with_reducible repeat (first | apply Kd.R_alloc | apply Kd.R_drewN | apply Kd.R_drew)); exact HO_7.out) (Kd.R_typed (by (with_reducible repeat (first | apply Kd.R_alloc | apply Kd.R_drewN | apply Kd.R_drew)); exact HO_13.out)) (by decide) hg)
                              have n1_ := asd (Kd.R_after (ok := (fun _ => True)) (by (with_reducible repeat (first | apply Kd.R_alloc | apply Kd.R_drewN | apply Kd.R_drew)); exact Kd.R_mono HO_8.out (fun _ hk => ⟨trivial, hk⟩)) hg hat)
                              have n2_ := asd (blk_grown (g := gb257) (o := .cells #[.int .i64 a0_0, .int .i64 a0_1, .slice A0_2 l0_2.length c0_2, .slice A0_3 l0_3.length c0_3] 25 (0, 0)) (by (with_reducible repeat (first | refine blk_drewN ?_ _ | refine blk_drew ?_ | refine blk_alloc ?_ _)); exact BK257.out) hg (Kd.R_ne HO_13.out BK257.out (by decide)))
                              have n3_ := asd (hb)
                              have n4_ := asd (ho)
                              clear HO_7 HO_8 BK257 HB HO_13
                              have HO_7 := n0_
                              have HO_8 := n1_
                              have BK257 := n2_
                              have HB := n3_
                              have HO295 := n4_
                              clear n0_ n1_ n2_ n3_ n4_ ho hb hg hat
                              refine hK.out _ _ ?_
                              clear hK K
                              refine norm_ (a' := ?_) ?_ ?_
                              rotate_left
                              ·show Act.put _ (some 156) _ = _
                               simp only [Act.put, List.setIfInBounds_toArray, List.set_cons_zero, List.set_cons_succ, i64_w, i32_w]
                               rfl
                              refine pure_ (i := 11) (N := some 13) (v := ?_) (a' := ?_) #[true, true, true, true, true, true, true, true, true, true, true, true] rfl rfl (any_of HT_.out (by kernel_rfl)) (fun _ _ _ h => h) (Or.inl ⟨by rfl, ?_⟩) ?_ ?_
                              rotate_left
                              ·intro w'
                               go_simp
                               with_reducible rfl
                              rotate_left
                              ·simp only [Act.put, List.setIfInBounds_toArray, List.set_cons_zero, List.set_cons_succ, i64_w, i32_w]
                               rfl
                              refine done_ (done_of HT_.out (by kernel_rfl)) ?_
                              try go_wp2
                              go_meet
                              case rel => exact ⟨_, (y293), H', ⟨by have := HK1.out; have := HJ24.out; have := HJ41.out; have := HJ47.out; have := HJ56.out; have := HJ62.out; have := HJ72.out; have := HJ79.out; first | omega | exact Nat.le_refl _⟩, ⟨by (try simp only [hl7_1]); (with_reducible repeat (first | apply Kd.R_alloc | apply Kd.R_drewN | apply Kd.R_drew)); exact HO_7.out⟩, ⟨by (try simp only [hl7_1]); (with_reducible repeat (first | apply Kd.R_alloc | apply Kd.R_drewN | apply Kd.R_drew)); exact Kd.R_mono HO_8.out (fun _ hk => hk.2)⟩, ⟨by (try simp only [hl7_1]); (with_reducible repeat (first | apply Kd.R_alloc | apply Kd.R_drewN | apply Kd.R_drew)); exact HO295.out⟩, ⟨by (try simp only [hl7_1]); (with_reducible repeat (first | refine blk_drewN ?_ _ | refine blk_drew ?_ | refine blk_alloc ?_ _)); exact BK257.out⟩, ⟨by repeat (first | (with_reducible first | exact HB.out | apply below_alloc | apply pw_below_drewN | apply below_drew1 | refine below_set ?_ GE257.out) | exact HB.out)⟩⟩
                             ·rw [if_neg c93] at H
                              exact absurd H (by simp)
                            ·rw [if_neg c92] at H
                             exact absurd H (by simp)
                           ·rw [if_neg c91] at H
                            exact absurd H (by simp)
                          ·replace c90 := Bool.eq_false_iff.mpr c90
                           subst c90
                           have H1 : (spec_l17Reach.j8 kj79 x7_1 x8_1 (wrap64 (x9_1 + t268)) x10_1 x13_72 a0_0 a0_1 l0_2 l0_3) = some r := by rw [if_neg (show ¬ (false = true) by decide)] at H; exact H
                           clear H
                           have H := H1
                           clear H1
                           have H' := asd H
                           clear H
                           go_wp2
                           go_meet
                           case rel => exact ⟨_, (x13_72), H', ⟨by have := HK1.out; have := HJ24.out; have := HJ41.out; have := HJ47.out; have := HJ56.out; have := HJ62.out; have := HJ72.out; have := HJ79.out; first | omega | exact Nat.le_refl _⟩, ⟨by (try simp only [hl7_1]); (with_reducible repeat (first | apply Kd.R_alloc | apply Kd.R_drewN | apply Kd.R_drew)); exact HO_7.out⟩, ⟨by (try simp only [hl7_1]); (with_reducible repeat (first | apply Kd.R_alloc | apply Kd.R_drewN | apply Kd.R_drew)); exact HO_8.out⟩, ⟨by (try simp only [hl7_1]); (with_reducible repeat (first | apply Kd.R_alloc | apply Kd.R_drewN | apply Kd.R_drew)); exact HO_13.out⟩, ⟨by (try simp only [hl7_1]); (with_reducible repeat (first | refine blk_drewN ?_ _ | refine blk_drew ?_ | refine blk_alloc ?_ _)); exact BK257.out⟩, ⟨by repeat (first | (with_reducible first | exact HB.out | apply below_alloc | apply pw_below_drewN | apply below_drew1 | refine below_set ?_ GE257.out) | exact HB.out)⟩⟩
                         case rest => as_aux_lemma =>
                          clear HC89; try clear c90; try clear c91; try clear c91b0; try clear c92; try clear c92b0; try clear c93; try clear hx292_0; try clear p292; try clear q292
                          obtain ⟨kq, x13_88, HA, HJ88, HO_7, HO_8, HO_13, BK257, HB⟩ := hcut
                          cases kq with
                          | zero => exact absurd HA.out (by simp [spec_l17Reach.j8])
                          | succ kj88 =>
                           have H := HA.out
                           clear HA
                           simp only [spec_l17Reach.j8] at H
                           have H' := asd H
                           clear H
                           go_wp2
                           go_loopg [8, 14] kj88 (fun kq v8 v14 w' => ∃ (x7_10 : List Bool) (x8_10 : List Int) (x14_10 : Int), v14 = .int .i64 x14_10 ∧ Aside0 (spec_l17Reach.l1 kq x7_10 x8_10 (wrap64 (x9_1 + t268)) x10_1 x13_88 x14_10 a0_0 a0_1 l0_2 l0_3 = some r) ∧ Aside0 (kq ≤ kj88) ∧ Aside0 (Kd.R Kd.bool 4 w' w.heap.size (fun _ => True) (.slice (some ⟨go10, 0, none⟩) x7_1.length co10) x7_10) ∧ Aside0 (Kd.R (Kd.int .i64) 3 w' w.heap.size (fun k_ => some k_ ≠ (u13 : Value).ownBlock) v8 x8_10) ∧ Aside0 (Kd.R (Kd.int .i64) 3 w' w.heap.size (fun k_ => some k_ ≠ (v8 : Value).ownBlock) u13 x13_88) ∧ Aside0 (w'.heap[gb257]? = some (.cells #[.int .i64 a0_0, .int .i64 a0_1, (.slice A0_2 l0_2.length c0_2), (.slice A0_3 l0_3.length c0_3)] 25 (0, 0))) ∧ Aside0 (Below w.heap.size w w'))
                           case atStart => exact ⟨(x7_1), (x8_1), (0), (by first | rfl | (simp; done) | (simp [*]; done)), H', ⟨Nat.le_refl _⟩, ⟨by (try simp only [hl7_1]); (with_reducible repeat (first | apply Kd.R_alloc | apply Kd.R_drewN | apply Kd.R_drew)); exact HO_7.out⟩, ⟨by (try simp only [hl7_1]); (with_reducible repeat (first | apply Kd.R_alloc | apply Kd.R_drewN | apply Kd.R_drew)); exact HO_8.out⟩, ⟨by (try simp only [hl7_1]); (with_reducible repeat (first | apply Kd.R_alloc | apply Kd.R_drewN | apply Kd.R_drew)); exact HO_13.out⟩, ⟨by (try simp only [hl7_1]); (with_reducible repeat (first | refine blk_drewN ?_ _ | refine blk_drew ?_ | refine blk_alloc ?_ _)); exact BK257.out⟩, ⟨by repeat (first | (with_reducible first | exact HB.out | apply below_alloc | apply pw_below_drewN | apply below_drew1 | refine below_set ?_ GE257.out) | exact HB.out)⟩⟩
                           case round =>
                            clear H'
                            obtain ⟨x7_10, x8_10, x14_10, rfl, HA, HK10, HO_7, HO_8, HO_13, BK257, HB⟩ := hrel
                            have hl7_10 := (Kd.R_reads' HO_7.out).1
                            rw [hl7_10] at HO_7
                            (try simp only [hl7_10])
                            (try simp only [hl7_10] at BK257)
                            (try simp only [hl7_10] at HO_8)
                            (try simp only [hl7_10] at HO_13)
                            cases gk with
                            | zero => exact absurd HA.out (by simp [spec_l17Reach.l1])
                            | succ k10 =>
                             have H := HA.out
                             clear HA
                             simp only [spec_l17Reach.l1] at H
                             by_cases c96 : x14_10 < (x13_88.length : Int)
                             ·rw [if_pos c96] at H
                              have c96b0 : decide (x14_10 < (x13_88.length : Int)) = true := decide_eq_true c96
                              clear c96
                              by_cases c97 : 0 ≤ x14_10
                              ·rw [if_pos c97] at H
                               have c97b0 : decide (0 ≤ x14_10) = true := decide_eq_true c97
                               clear c97
                               by_cases c98 : 0 ≤ (rd x13_88 x14_10)
                               ·rw [if_pos c98] at H
                                have c98b0 : decide (0 ≤ (rd x13_88 x14_10)) = true := decide_eq_true c98
                                clear c98
                                by_cases c99 : (rd x13_88 x14_10) < (x7_10.length : Int)
                                ·rw [if_pos c99] at H
                                 have c99b0 : decide ((rd x13_88 x14_10) < (x7_10.length : Int)) = true := decide_eq_true c99
                                 clear c99
                                 obtain ⟨bq100, hbq100⟩ : ∃ b_ : Bool, b_ = (rdOf false x7_10 (rd x13_88 x14_10)) := ⟨_, rfl⟩
                                 replace H : (if (bq100 = true) then (spec_l17Reach.l1 k10 x7_10 x8_10 (wrap64 (x9_1 + t268)) x10_1 x13_88 (wrap64 (x14_10 + 1)) a0_0 a0_1 l0_2 l0_3) else (if x8_10.length < 17592186044416 then (spec_l17Reach.l1 k10 (x7_10.set ((rd x13_88 x14_10) : Int).toNat true) (x8_10 ++ [rd x13_88 x14_10]) (wrap64 (x9_1 + t268)) x10_1 x13_88 (wrap64 (x14_10 + 1)) a0_0 a0_1 l0_2 l0_3) else (none))) = some r := by rw [← hbq100] at H; exact H
                                 have Nbq100 := asd hbq100
                                 clear hbq100
                                 by_cases c101 : (bq100 = true)
                                 ·subst c101
                                  have H1 : (spec_l17Reach.l1 k10 x7_10 x8_10 (wrap64 (x9_1 + t268)) x10_1 x13_88 (wrap64 (x14_10 + 1)) a0_0 a0_1 l0_2 l0_3) = some r := by rw [if_pos rfl] at H; exact H
                                  clear H
                                  have H := H1
                                  clear H1
                                  have H' := asd H
                                  clear H
                                  obtain ⟨Ao102, co102, eo102⟩ := Kd.R_slice HO_13.out
                                  subst eo102
                                  have p296 : 0 ≤ (x14_10 : Int) := of_decide_eq_true (by first | (with_reducible assumption) | assumption)
                                  have q296 : x14_10 < (x13_88.length : Int) := of_decide_eq_true (by first | (with_reducible assumption) | assumption)
                                  obtain ⟨ad296, e296, hx296_0⟩ := Kd.at_int (Kd.R_reads' HO_13.out).2.2 x14_10 p296 q296
                                  cases e296
                                  replace p296 := eq_true p296
                                  replace q296 := eq_true q296
                                  have p297 : 0 ≤ ((rd x13_88 x14_10) : Int) := of_decide_eq_true (by first | (with_reducible assumption) | assumption)
                                  have q297 : (rd x13_88 x14_10) < (x7_10.length : Int) := of_decide_eq_true (by first | (with_reducible assumption) | assumption)
                                  obtain ⟨ad297, e297, hx297_0⟩ := Kd.at_bool (Kd.R_reads' HO_7.out).2.2 (rd x13_88 x14_10) p297 q297
                                  (try rw [← Nbq100.out] at hx297_0)
                                  obtain rfl : (⟨go10, 0, none⟩ : Addr) = ad297 := (by injection e297)
                                  (first | simp only [add_plain] at hx297_0 | simp only [add_at] at hx297_0 | simp only [Addr.add, Nat.zero_add] at hx297_0 | skip)
                                  replace p297 := eq_true p297
                                  replace q297 := eq_true q297
                                  go_wp2
                                  (try simp only [← hl7_10])
                                  go_roundg k10
                                  case measure => have := HK1.out; have := HJ24.out; have := HJ41.out; have := HJ47.out; have := HJ56.out; have := HJ62.out; have := HJ72.out; have := HJ79.out; have := HJ88.out; have := HK10.out; omega
                                  case rel => exact ⟨(x7_10), (x8_10), (wrap64 (x14_10 + 1)), (by first | rfl | (simp; done) | (simp [*]; done)), H', ⟨by have := HK1.out; have := HJ24.out; have := HJ41.out; have := HJ47.out; have := HJ56.out; have := HJ62.out; have := HJ72.out; have := HJ79.out; have := HJ88.out; have := HK10.out; omega⟩, ⟨by (try simp only [hl7_1]); (try simp only [hl7_10]); (with_reducible repeat (first | apply Kd.R_alloc | apply Kd.R_drewN | apply Kd.R_drew)); exact HO_7.out⟩, ⟨by (try simp only [hl7_1]); (try simp only [hl7_10]); (with_reducible repeat (first | apply Kd.R_alloc | apply Kd.R_drewN | apply Kd.R_drew)); exact HO_8.out⟩, ⟨by (try simp only [hl7_1]); (try simp only [hl7_10]); (with_reducible repeat (first | apply Kd.R_alloc | apply Kd.R_drewN | apply Kd.R_drew)); exact HO_13.out⟩, ⟨by (try simp only [hl7_1]); (try simp only [hl7_10]); (with_reducible repeat (first | refine blk_drewN ?_ _ | refine blk_drew ?_ | refine blk_alloc ?_ _)); exact BK257.out⟩, ⟨by repeat (first | (with_reducible first | exact HB.out | apply below_alloc | apply pw_below_drewN | apply below_drew1 | refine below_set ?_ GE257.out) | exact HB.out)⟩⟩
                                 ·replace c101 := Bool.eq_false_iff.mpr c101
                                  subst c101
                                  have H1 : (if x8_10.length < 17592186044416 then (spec_l17Reach.l1 k10 (x7_10.set ((rd x13_88 x14_10) : Int).toNat true) (x8_10 ++ [rd x13_88 x14_10]) (wrap64 (x9_1 + t268)) x10_1 x13_88 (wrap64 (x14_10 + 1)) a0_0 a0_1 l0_2 l0_3) else (none)) = some r := by rw [if_neg (show ¬ (false = true) by decide)] at H; exact H
                                  clear H
                                  have H := H1
                                  clear H1
                                  obtain ⟨y299, hy299⟩ : ∃ y_ : List Bool, y_ = (x7_10.set ((rd x13_88 x14_10) : Int).toNat true) := ⟨_, rfl⟩
                                  replace H : (if x8_10.length < 17592186044416 then (spec_l17Reach.l1 k10 y299 (x8_10 ++ [rd x13_88 x14_10]) (wrap64 (x9_1 + t268)) x10_1 x13_88 (wrap64 (x14_10 + 1)) a0_0 a0_1 l0_2 l0_3) else (none)) = some r := by first | (rw [hy299]; with_reducible exact H) | (have H2_ := (Option.bind_some _ _).symm.trans H; rw [hy299]; with_reducible exact H2_) | (have H2_ := (Option.bind_some _ _).symm.trans H; with_reducible exact H2_) | with_reducible exact H | (rw [hy299]; exact H) | exact H
                                  have Ny299 := asd hy299
                                  clear hy299
                                  by_cases c104 : x8_10.length < 17592186044416
                                  ·rw [if_pos c104] at H
                                   have LMc104 := asd c104
                                   clear c104
                                   obtain ⟨y301, hy301⟩ : ∃ y_ : List Int, y_ = (x8_10 ++ [rd x13_88 x14_10]) := ⟨_, rfl⟩
                                   replace H : (spec_l17Reach.l1 k10 y299 y301 (wrap64 (x9_1 + t268)) x10_1 x13_88 (wrap64 (x14_10 + 1)) a0_0 a0_1 l0_2 l0_3) = some r := by first | (rw [hy301]; with_reducible exact H) | (have H2_ := (Option.bind_some _ _).symm.trans H; rw [hy301]; with_reducible exact H2_) | (have H2_ := (Option.bind_some _ _).symm.trans H; with_reducible exact H2_) | with_reducible exact H | (rw [hy301]; exact H) | exact H
                                   have Ny301 := asd hy301
                                   clear hy301
                                   have H' := asd H
                                   clear H
                                   obtain ⟨Ao105, co105, eo105⟩ := Kd.R_slice HO_13.out
                                   subst eo105
                                   have p296 : 0 ≤ (x14_10 : Int) := of_decide_eq_true (by first | (with_reducible assumption) | assumption)
                                   have q296 : x14_10 < (x13_88.length : Int) := of_decide_eq_true (by first | (with_reducible assumption) | assumption)
                                   obtain ⟨ad296, e296, hx296_0⟩ := Kd.at_int (Kd.R_reads' HO_13.out).2.2 x14_10 p296 q296
                                   cases e296
                                   replace p296 := eq_true p296
                                   replace q296 := eq_true q296
                                   have p297 : 0 ≤ ((rd x13_88 x14_10) : Int) := of_decide_eq_true (by first | (with_reducible assumption) | assumption)
                                   have q297 : (rd x13_88 x14_10) < (x7_10.length : Int) := of_decide_eq_true (by first | (with_reducible assumption) | assumption)
                                   obtain ⟨ad297, e297, hx297_0⟩ := Kd.at_bool (Kd.R_reads' HO_7.out).2.2 (rd x13_88 x14_10) p297 q297
                                   (try rw [← Nbq100.out] at hx297_0)
                                   obtain rfl : (⟨go10, 0, none⟩ : Addr) = ad297 := (by injection e297)
                                   (first | simp only [add_plain] at hx297_0 | simp only [add_at] at hx297_0 | simp only [Addr.add, Nat.zero_add] at hx297_0 | skip)
                                   replace p297 := eq_true p297
                                   replace q297 := eq_true q297
                                   have p298 : 0 ≤ (x14_10 : Int) := of_decide_eq_true (by first | (with_reducible assumption) | assumption)
                                   have q298 : x14_10 < (x13_88.length : Int) := of_decide_eq_true (by first | (with_reducible assumption) | assumption)
                                   obtain ⟨ad298, e298, hx298_0⟩ := Kd.at_int (Kd.R_reads' HO_13.out).2.2 x14_10 p298 q298
                                   obtain rfl : ad296 = ad298 := (by injection e298)
                                   replace p298 := eq_true p298
                                   replace q298 := eq_true q298
                                   have p103 : 0 ≤ ((rd x13_88 x14_10) : Int) := of_decide_eq_true (by first | (with_reducible assumption) | assumption)
                                   have q103 : ((rd x13_88 x14_10) : Int) < ((x7_10.length : Int) : Int) := of_decide_eq_true (by first | (with_reducible assumption) | assumption)
                                   obtain ⟨hx103_0, hf103_0⟩ := Kd.R_celln false HO_7.out ((rd x13_88 x14_10) : Int) p103 q103
                                   replace p103 := eq_true p103
                                   replace q103 := eq_true q103
                                   have HP106 := Kd.R_putg HO_7.out ((rd x13_88 x14_10) : Int) true
                                   go_wp2_with (first | ((with_reducible refine gate_store (t := 4) (p := 176) rfl ?_); refine store_event (t := 4) (p := 176) (v := ?vo_w107) (w1 := (wr.setCell ⟨go10, ((rd x13_88 x14_10) : Int).toNat, none⟩ (.bool true))) ?hg ?ho ?hn ?hr ?_; (case ho => rfl); (case hg => rfl); (case hn => rfl); (case hr => first | (go_simp; done) | (go_simp; rfl)); intro w107 hw; have hg : wr.grownBy w107 (some go10) := (by rw [hw]; exact HP106.2); have hp_ : Kd.R Kd.bool 4 w107 w.heap.size (fun _ => True) (.slice (some ⟨go10, 0, none⟩) x7_10.length co10) y299 := (by rw [hw, Ny299.out]; exact HP106.1); clear HP106; have n0_ := asd (hp_); have n1_ := asd (Kd.R_over' (v := (.slice (some ⟨go10, 0, none⟩) x7_10.length co10)) (by (with_reducible repeat (first | apply Kd.R_alloc | apply Kd.R_drewN | apply Kd.R_drew)); exact HO_8.out) (Kd.R_typed HO_7.out) (by decide) hg); have n2_ := asd (Kd.R_over' (v := (.slice (some ⟨go10, 0, none⟩) x7_10.length co10)) (by (with_reducible repeat (first | apply Kd.R_alloc | apply Kd.R_drewN | apply Kd.R_drew)); exact HO_13.out) (Kd.R_typed HO_7.out) (by decide) hg); have n3_ := asd (blk_grown (g := gb257) (o := .cells #[.int .i64 a0_0, .int .i64 a0_1, .slice A0_2 l0_2.length c0_2, .slice A0_3 l0_3.length c0_3] 25 (0, 0)) (by (with_reducible repeat (first | refine blk_drewN ?_ _ | refine blk_drew ?_ | refine blk_alloc ?_ _)); exact BK257.out) hg (Kd.R_ne HO_7.out BK257.out (by decide))); have n4_ := asd ((by rw [hw]; exact below_set (HB.out) GB10.out : Below w.heap.size w w107)); clear HO_7 HO_8 HO_13 BK257 HB; have HO_7 := n0_; have HO_8 := n1_; have HO_13 := n2_; have BK257 := n3_; have HB := n4_; clear n0_ n1_ n2_ n3_ n4_ hg hw hp_; have p300 : 0 ≤ (x14_10 : Int) := of_decide_eq_true (by first | (with_reducible assumption) | assumption); have q300 : x14_10 < (x13_88.length : Int) := of_decide_eq_true (by first | (with_reducible assumption) | assumption); obtain ⟨ad300, e300, hx300_0⟩ := Kd.at_int (Kd.R_reads' HO_13.out).2.2 x14_10 p300 q300; obtain rfl : ad296 = ad300 := (by injection e300); replace p300 := eq_true p300; replace q300 := eq_true q300) | ((with_reducible refine gate_builtin (b := .append) (xs := #[.tmp 177, .tmp 182]) rfl ?_); at_builtin; refine Kd.R_append (Kd.int .i64) (w0 := w) w.heap.size rfl (.tmp 177) (.tmp 182) 35 3 (.int .i64 0) 8 rfl Try.underlying35 info3 rfl (by decide) (by omega) u8 x8_10 (rd x13_88 x14_10) [.int .i64 (rd x13_88 x14_10)] (fun k_ => some k_ ≠ (.slice (some ad296) x13_88.length co105 : Value).ownBlock) (fun _ => False) rfl rfl ?aP (fun _ hk => hk.elim) ?aF ?aO ?aB ?aS ?aL ?_; (case aP => exact rfl); (case aB => exact (by repeat (first | (with_reducible first | exact HB.out | apply below_alloc | apply pw_below_drewN | apply below_drew1 | refine below_set ?_ GE257.out) | exact HB.out))); (case aF => exact (fun k_ hk => Kd.fresh' (Kd.R_lt (by (with_reducible repeat (first | apply Kd.R_alloc | apply Kd.R_drewN | apply Kd.R_drew)); exact HO_13.out)) k_ hk)); (case aO => exact (by (with_reducible repeat (first | apply Kd.R_alloc | apply Kd.R_drewN | apply Kd.R_drew)); exact HO_8.out)); (case aS => exact (below_size (by repeat (first | (with_reducible first | exact HB.out | apply below_alloc | apply pw_below_drewN | apply below_drew1 | refine below_set ?_ GE257.out) | exact HB.out)))); (case aL => have := LMc104.out; omega); intro v302 w108 ho hb hg hat; rw [← Ny301.out] at ho; have n0_ := asd (Kd.R_over' (by (with_reducible repeat (first | apply Kd.R_alloc | apply Kd.R_drewN | apply Kd.R_drew)); exact HO_7.out) (Kd.R_typed (by (with_reducible repeat (first | apply Kd.R_alloc | apply Kd.R_drewN | apply Kd.R_drew)); exact HO_8.out)) (by decide) hg); have n1_ := asd (Kd.R_after (ok := (fun _ => True)) (by (with_reducible repeat (first | apply Kd.R_alloc | apply Kd.R_drewN | apply Kd.R_drew)); exact Kd.R_mono HO_13.out (fun _ hk => ⟨trivial, hk⟩)) hg hat); have n2_ := asd (blk_grown (g := gb257) (o := .cells #[.int .i64 a0_0, .int .i64 a0_1, .slice A0_2 l0_2.length c0_2, .slice A0_3 l0_3.length c0_3] 25 (0, 0)) (by (with_reducible repeat (first | refine blk_drewN ?_ _ | refine blk_drew ?_ | refine blk_alloc ?_ _)); exact BK257.out) hg (Kd.R_ne HO_8.out BK257.out (by decide))); have n3_ := asd (hb); have n4_ := asd (ho); clear HO_7 HO_13 BK257 HB HO_8; have HO_7 := n0_; have HO_13 := n1_; have BK257 := n2_; have HB := n3_; have HO303 := n4_; clear n0_ n1_ n2_ n3_ n4_; clear ho hb hg hat))
                                   (try simp only [← hl7_10])
                                   go_roundg k10
                                   case measure => have := HK1.out; have := HJ24.out; have := HJ41.out; have := HJ47.out; have := HJ56.out; have := HJ62.out; have := HJ72.out; have := HJ79.out; have := HJ88.out; have := HK10.out; omega
                                   case rel => exact ⟨(y299), (y301), (wrap64 (x14_10 + 1)), (by first | rfl | (simp; done) | (simp [*]; done)), H', ⟨by have := HK1.out; have := HJ24.out; have := HJ41.out; have := HJ47.out; have := HJ56.out; have := HJ62.out; have := HJ72.out; have := HJ79.out; have := HJ88.out; have := HK10.out; omega⟩, ⟨by (try simp only [hl7_1]); (try simp only [hl7_10]); (with_reducible repeat (first | apply Kd.R_alloc | apply Kd.R_drewN | apply Kd.R_drew)); exact HO_7.out⟩, ⟨by (try simp only [hl7_1]); (try simp only [hl7_10]); (with_reducible repeat (first | apply Kd.R_alloc | apply Kd.R_drewN | apply Kd.R_drew)); exact HO303.out⟩, ⟨by (try simp only [hl7_1]); (try simp only [hl7_10]); (with_reducible repeat (first | apply Kd.R_alloc | apply Kd.R_drewN | apply Kd.R_drew)); exact Kd.R_mono HO_13.out (fun _ hk => hk.2)⟩, ⟨by (try simp only [hl7_1]); (try simp only [hl7_10]); (with_reducible repeat (first | refine blk_drewN ?_ _ | refine blk_drew ?_ | refine blk_alloc ?_ _)); exact BK257.out⟩, ⟨by repeat (first | (with_reducible first | exact HB.out | apply below_alloc | apply pw_below_drewN | apply below_drew1 | refine below_set ?_ GE257.out) | exact HB.out)⟩⟩
                                  ·rw [if_neg c104] at H
                                   exact absurd H (by simp)
                                ·rw [if_neg c99] at H
                                 exact absurd H (by simp)
                               ·rw [if_neg c98] at H
                                exact absurd H (by simp)
                              ·rw [if_neg c97] at H
                               exact absurd H (by simp)
                             ·rw [if_neg c96] at H
                              have c96b0 : decide (x14_10 < (x13_88.length : Int)) = false := decide_eq_false c96
                              clear c96
                              have H' := asd H
                              clear H
                              obtain ⟨Ao109, co109, eo109⟩ := Kd.R_slice HO_13.out
                              subst eo109
                              go_wp2
                              (try simp only [← hl7_1, ← hl7_10])
                              go_roundg k10
                              case measure => have := HK1.out; have := HJ24.out; have := HJ41.out; have := HJ47.out; have := HJ56.out; have := HJ62.out; have := HJ72.out; have := HJ79.out; have := HJ88.out; have := HK10.out; omega
                              case rel => exact ⟨(x7_10), (x8_10), ((wrap64 (x9_1 + t268))), (wrap64 (x10_1 + 1)), (by first | rfl | (simp; done) | (simp [*]; done)), (by first | rfl | (simp; done) | (simp [*]; done)), H', ⟨by have := HK1.out; have := HJ24.out; have := HJ41.out; have := HJ47.out; have := HJ56.out; have := HJ62.out; have := HJ72.out; have := HJ79.out; have := HJ88.out; have := HK10.out; omega⟩, ⟨by (try simp only [hl7_1]); (try simp only [hl7_10]); (with_reducible repeat (first | apply Kd.R_alloc | apply Kd.R_drewN | apply Kd.R_drew)); exact HO_7.out⟩, ⟨by (try simp only [hl7_1]); (try simp only [hl7_10]); (with_reducible repeat (first | apply Kd.R_alloc | apply Kd.R_drewN | apply Kd.R_drew)); exact Kd.R_mono HO_8.out (fun _ hk => trivial)⟩, ⟨by (try simp only [hl7_1]); (try simp only [hl7_10]); (with_reducible repeat (first | refine blk_drewN ?_ _ | refine blk_drew ?_ | refine blk_alloc ?_ _)); exact BK257.out⟩, ⟨by repeat (first | (with_reducible first | exact HB.out | apply below_alloc | apply pw_below_drewN | apply below_drew1 | refine below_set ?_ GE257.out) | exact HB.out)⟩⟩
         ·rw [if_neg c22] at H
          exact absurd H (by simp)
        ·rw [if_neg c21] at H
         have c21b0 : decide (x10_1 < (x8_1.length : Int)) = false := decide_eq_false c21
         clear c21
         obtain rfl := Option.some.inj H
         obtain ⟨Ao110, co110, eo110⟩ := Kd.R_slice HO_8.out
         subst eo110
         go_wp2
         go_ret
         exact ⟨by first | rfl | (simp [errW_none, errW_some] <;> rfl) | (simp only [← hji4]; first | rfl | (simp [errW_none, errW_some] <;> rfl)) | (simp [*, errW_none, errW_some] <;> rfl), by repeat (first | (with_reducible first | exact HB.out | apply below_alloc | apply pw_below_drewN | apply below_drew1 | refine below_set ?_ GE257.out) | exact HB.out)⟩
     ·rw [if_neg c9] at H
      exact absurd H (by simp)
    ·rw [if_neg c8] at H
     exact absurd H (by simp)
   ·rw [if_neg c7] at H
    exact absurd H (by simp)
  ·rw [if_neg c6] at H
   exact absurd H (by simp)
 ·rw [if_neg c5] at H
  exact absurd H (by simp)

end Go.Proofs.Ytncmneliinbjdaa.PMk
