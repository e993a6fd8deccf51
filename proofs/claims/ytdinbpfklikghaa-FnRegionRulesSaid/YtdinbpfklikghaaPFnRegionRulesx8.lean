/- Functions of the program as plain Lean functions, and what a call of each comes to. No conditions. -/
import Derived.Test.YtdinbpfklikghaaPFnRegionRulesx0
import Derived.Test.YtdinbpfklikghaaPFnRegionRulesx1
import Derived.Test.YtdinbpfklikghaaPFnRegionRulesx3
import Derived.Test.YtdinbpfklikghaaPFnRegionRulesx4
import Derived.Test.YtdinbpfklikghaaPFnRegionRulesx5
import Derived.Test.YtdinbpfklikghaaPFnRegionRulesx6
import Derived.Test.YtdinbpfklikghaaPFnRegionRulesx7
namespace Go.Proofs.Ytdinbpfklikghaa.PFnRegionRules
open Go.RowKit Go.Proofs.YtdinbpfklikghaaW.PrintWords Go.Proofs.YtdinbpfklikghaaW.PrintLast Go.Proofs.YtdinbpfklikghaaW.PrintMore
attribute [local go_sem] max2_int min2_int max_two min_two max_three min_three max_four min_four   -- for this text's walks alone
set_option linter.unusedVariables false
set_option linter.unusedSimpArgs false

/-! ### laws_FnRegionRules: function 13 -/
mutual
def laws_FnRegionRules.j0 : Nat → Int → List (S62) → Bool → List (S62) → Bool → Option (Bool)
  | 0, _, _, _, _, _ => none
  | k + 1, x4, x5, x6, x7, x44 => if x44 = true then (some false) else (if x6 = true then ((impl_SquareOf.f k x4).bind fun t282 => (if (t282.length : Int) = (wrap64 (x4 * x4)) then (laws_FnRegionRules.l0 k x4 x5 x7 t282 0) else (some false))) else (if (x5.length : Int) = 0 then ((laws_alive.f k).bind fun t281 => (some t281)) else (some false)))
def laws_FnRegionRules.l0 : Nat → Int → List (S62) → List (S62) → List Int → Int → Option (Bool)
  | 0, _, _, _, _, _ => none
  | k + 1, x4, x5, x7, x9, x10 => if x10 < (x5.length : Int) then (if 0 ≤ x10 then (if ((rd_T62 x5 x10).f0) = 1 then (if x10 < (x7.length : Int) then ((laws_sameInts.f k ((rd_T62 x5 x10).f1) ((rd_T62 x7 x10).f1)).bind fun t288 => (if t288 = true then ((impl_RuleValid.f k ((rd_T62 x5 x10).f0) ((rd_T62 x5 x10).f1) ((rd_T62 x5 x10).f2) x4).bind fun t290 => (laws_FnRegionRules.j2 k x4 x5 x7 x9 x10 (!t290))) else (laws_FnRegionRules.j2 k x4 x5 x7 x9 x10 true))) else (none)) else (laws_FnRegionRules.j2 k x4 x5 x7 x9 x10 true)) else (none)) else (some (decide ((x5.length : Int) ≤ x4)))
def laws_FnRegionRules.j2 : Nat → Int → List (S62) → List (S62) → List Int → Int → Bool → Option (Bool)
  | 0, _, _, _, _, _, _ => none
  | k + 1, x4, x5, x7, x9, x10, x95 => if x95 = true then (some false) else (laws_FnRegionRules.l1 k x4 x5 x7 x9 x10 0 false 0)
def laws_FnRegionRules.l1 : Nat → Int → List (S62) → List (S62) → List Int → Int → Int → Bool → Int → Option (Bool)
  | 0, _, _, _, _, _, _, _, _ => none
  | k + 1, x4, x5, x7, x9, x10, x11, x12, x13 => if 0 ≤ x10 then (if x10 < (x5.length : Int) then (if x13 < (((rd_T62 x5 x10).f1).length : Int) then (if 0 ≤ x13 then (if 0 ≤ (rd ((rd_T62 x5 x10).f1) x13) then (if (rd ((rd_T62 x5 x10).f1) x13) < (x9.length : Int) then (if x12 = true then (if 0 ≤ (rd x9 (rd ((rd_T62 x5 x10).f1) x13)) then (laws_FnRegionRules.l1 k x4 x5 x7 x9 x10 (Go.bits .or .i64 x11 (shl .i64 1 (rd x9 (rd ((rd_T62 x5 x10).f1) x13)))) true (wrap64 (x13 + 1))) else (none)) else (if 0 ≤ (rd x9 (rd ((rd_T62 x5 x10).f1) x13)) then (laws_FnRegionRules.l1 k x4 x5 x7 x9 x10 (Go.bits .or .i64 x11 (shl .i64 1 (rd x9 (rd ((rd_T62 x5 x10).f1) x13)))) ((Int.tmod (shr .i64 x11 (rd x9 (rd ((rd_T62 x5 x10).f1) x13))) 2) == 1) (wrap64 (x13 + 1))) else (none))) else (none)) else (none)) else (none)) else ((impl_RuleHolds.f k ((rd_T62 x5 x10).f0) ((rd_T62 x5 x10).f1) ((rd_T62 x5 x10).f2) x9 x4).bind fun t296 => (if (t296 == x12) = true then (some false) else (laws_FnRegionRules.l0 k x4 x5 x7 x9 (wrap64 (x10 + 1)))))) else (none)) else (none)
end
def laws_FnRegionRules.f (k : Nat) (l0 : List Int) : Option (Bool) := if (l0.length : Int) > 1048576 then (some true) else ((spec_DrawRegionRules.f k l0).bind fun bt269 => ((impl_RegionRules.f k bt269.1 bt269.2).bind fun bt273 => ((spec_RegionRules.f k bt269.1 bt269.2).bind fun bt277 => (if (bt273.1.length : Int) = (bt277.1.length : Int) then (laws_FnRegionRules.j0 k bt269.2 bt273.1 bt273.2 bt277.1 (bt273.2 != bt277.2)) else (laws_FnRegionRules.j0 k bt269.2 bt273.1 bt273.2 bt277.1 true)))))
theorem laws_FnRegionRules.mono_l : ∀ k, (∀ y0 y1 y2 y3 y4, LeO (laws_FnRegionRules.j0 k y0 y1 y2 y3 y4) (laws_FnRegionRules.j0 (k + 1) y0 y1 y2 y3 y4)) ∧ (∀ y0 y1 y2 y3 y4, LeO (laws_FnRegionRules.l0 k y0 y1 y2 y3 y4) (laws_FnRegionRules.l0 (k + 1) y0 y1 y2 y3 y4)) ∧ (∀ y0 y1 y2 y3 y4 y5, LeO (laws_FnRegionRules.j2 k y0 y1 y2 y3 y4 y5) (laws_FnRegionRules.j2 (k + 1) y0 y1 y2 y3 y4 y5)) ∧ (∀ y0 y1 y2 y3 y4 y5 y6 y7, LeO (laws_FnRegionRules.l1 k y0 y1 y2 y3 y4 y5 y6 y7) (laws_FnRegionRules.l1 (k + 1) y0 y1 y2 y3 y4 y5 y6 y7))
  | 0 => ⟨fun _ _ _ _ _ r h => by simp [laws_FnRegionRules.j0] at h, fun _ _ _ _ _ r h => by simp [laws_FnRegionRules.l0] at h, fun _ _ _ _ _ _ r h => by simp [laws_FnRegionRules.j2] at h, fun _ _ _ _ _ _ _ _ r h => by simp [laws_FnRegionRules.l1] at h⟩
  | k + 1 => by
    obtain ⟨ih0, ih1, ih2, ih3⟩ := laws_FnRegionRules.mono_l k
    refine ⟨?_, ?_, ?_, ?_⟩
    · intro y0 y1 y2 y3 y4
      unfold laws_FnRegionRules.j0
      repeat' first
      | (with_reducible exact ih0 _ _ _ _ _)
      | (with_reducible exact ih1 _ _ _ _ _)
      | (with_reducible exact ih2 _ _ _ _ _ _)
      | (with_reducible exact ih3 _ _ _ _ _ _ _ _)
      | (with_reducible exact impl_RegionRules.mono _ _ _)
      | (with_reducible exact impl_RuleHolds.mono _ _ _ _ _ _)
      | (with_reducible exact impl_RuleValid.mono _ _ _ _ _)
      | (with_reducible exact impl_SquareOf.mono _ _)
      | (with_reducible exact laws_alive.mono _)
      | (with_reducible exact laws_sameInts.mono _ _ _)
      | (with_reducible exact spec_DrawRegionRules.mono _ _)
      | (with_reducible exact spec_RegionRules.mono _ _ _)
      | (with_reducible exact LeO.refl _)
      | (with_reducible exact LeO.none _)
      | (with_reducible refine LeO.ite ?_ ?_)
      | (with_reducible refine LeO.bind ?_ (fun _ => ?_))
      | exact ih0 _ _ _ _ _
      | exact ih1 _ _ _ _ _
      | exact ih2 _ _ _ _ _ _
      | exact ih3 _ _ _ _ _ _ _ _
      | exact impl_RegionRules.mono _ _ _
      | exact impl_RuleHolds.mono _ _ _ _ _ _
      | exact impl_RuleValid.mono _ _ _ _ _
      | exact impl_SquareOf.mono _ _
      | exact laws_alive.mono _
      | exact laws_sameInts.mono _ _ _
      | exact spec_DrawRegionRules.mono _ _
      | exact spec_RegionRules.mono _ _ _
      | exact LeO.none _
      | refine LeO.ite ?_ ?_
      | refine LeO.bind ?_ (fun _ => ?_)
    · intro y0 y1 y2 y3 y4
      unfold laws_FnRegionRules.l0
      repeat' first
      | (with_reducible exact ih0 _ _ _ _ _)
      | (with_reducible exact ih1 _ _ _ _ _)
      | (with_reducible exact ih2 _ _ _ _ _ _)
      | (with_reducible exact ih3 _ _ _ _ _ _ _ _)
      | (with_reducible exact impl_RegionRules.mono _ _ _)
      | (with_reducible exact impl_RuleHolds.mono _ _ _ _ _ _)
      | (with_reducible exact impl_RuleValid.mono _ _ _ _ _)
      | (with_reducible exact impl_SquareOf.mono _ _)
      | (with_reducible exact laws_alive.mono _)
      | (with_reducible exact laws_sameInts.mono _ _ _)
      | (with_reducible exact spec_DrawRegionRules.mono _ _)
      | (with_reducible exact spec_RegionRules.mono _ _ _)
      | (with_reducible exact LeO.refl _)
      | (with_reducible exact LeO.none _)
      | (with_reducible refine LeO.ite ?_ ?_)
      | (with_reducible refine LeO.bind ?_ (fun _ => ?_))
      | exact ih0 _ _ _ _ _
      | exact ih1 _ _ _ _ _
      | exact ih2 _ _ _ _ _ _
      | exact ih3 _ _ _ _ _ _ _ _
      | exact impl_RegionRules.mono _ _ _
      | exact impl_RuleHolds.mono _ _ _ _ _ _
      | exact impl_RuleValid.mono _ _ _ _ _
      | exact impl_SquareOf.mono _ _
      | exact laws_alive.mono _
      | exact laws_sameInts.mono _ _ _
      | exact spec_DrawRegionRules.mono _ _
      | exact spec_RegionRules.mono _ _ _
      | exact LeO.none _
      | refine LeO.ite ?_ ?_
      | refine LeO.bind ?_ (fun _ => ?_)
    · intro y0 y1 y2 y3 y4 y5
      unfold laws_FnRegionRules.j2
      repeat' first
      | (with_reducible exact ih0 _ _ _ _ _)
      | (with_reducible exact ih1 _ _ _ _ _)
      | (with_reducible exact ih2 _ _ _ _ _ _)
      | (with_reducible exact ih3 _ _ _ _ _ _ _ _)
      | (with_reducible exact impl_RegionRules.mono _ _ _)
      | (with_reducible exact impl_RuleHolds.mono _ _ _ _ _ _)
      | (with_reducible exact impl_RuleValid.mono _ _ _ _ _)
      | (with_reducible exact impl_SquareOf.mono _ _)
      | (with_reducible exact laws_alive.mono _)
      | (with_reducible exact laws_sameInts.mono _ _ _)
      | (with_reducible exact spec_DrawRegionRules.mono _ _)
      | (with_reducible exact spec_RegionRules.mono _ _ _)
      | (with_reducible exact LeO.refl _)
      | (with_reducible exact LeO.none _)
      | (with_reducible refine LeO.ite ?_ ?_)
      | (with_reducible refine LeO.bind ?_ (fun _ => ?_))
      | exact ih0 _ _ _ _ _
      | exact ih1 _ _ _ _ _
      | exact ih2 _ _ _ _ _ _
      | exact ih3 _ _ _ _ _ _ _ _
      | exact impl_RegionRules.mono _ _ _
      | exact impl_RuleHolds.mono _ _ _ _ _ _
      | exact impl_RuleValid.mono _ _ _ _ _
      | exact impl_SquareOf.mono _ _
      | exact laws_alive.mono _
      | exact laws_sameInts.mono _ _ _
      | exact spec_DrawRegionRules.mono _ _
      | exact spec_RegionRules.mono _ _ _
      | exact LeO.none _
      | refine LeO.ite ?_ ?_
      | refine LeO.bind ?_ (fun _ => ?_)
    · intro y0 y1 y2 y3 y4 y5 y6 y7
      unfold laws_FnRegionRules.l1
      repeat' first
      | (with_reducible exact ih0 _ _ _ _ _)
      | (with_reducible exact ih1 _ _ _ _ _)
      | (with_reducible exact ih2 _ _ _ _ _ _)
      | (with_reducible exact ih3 _ _ _ _ _ _ _ _)
      | (with_reducible exact impl_RegionRules.mono _ _ _)
      | (with_reducible exact impl_RuleHolds.mono _ _ _ _ _ _)
      | (with_reducible exact impl_RuleValid.mono _ _ _ _ _)
      | (with_reducible exact impl_SquareOf.mono _ _)
      | (with_reducible exact laws_alive.mono _)
      | (with_reducible exact laws_sameInts.mono _ _ _)
      | (with_reducible exact spec_DrawRegionRules.mono _ _)
      | (with_reducible exact spec_RegionRules.mono _ _ _)
      | (with_reducible exact LeO.refl _)
      | (with_reducible exact LeO.none _)
      | (with_reducible refine LeO.ite ?_ ?_)
      | (with_reducible refine LeO.bind ?_ (fun _ => ?_))
      | exact ih0 _ _ _ _ _
      | exact ih1 _ _ _ _ _
      | exact ih2 _ _ _ _ _ _
      | exact ih3 _ _ _ _ _ _ _ _
      | exact impl_RegionRules.mono _ _ _
      | exact impl_RuleHolds.mono _ _ _ _ _ _
      | exact impl_RuleValid.mono _ _ _ _ _
      | exact impl_SquareOf.mono _ _
      | exact laws_alive.mono _
      | exact laws_sameInts.mono _ _ _
      | exact spec_DrawRegionRules.mono _ _
      | exact spec_RegionRules.mono _ _ _
      | exact LeO.none _
      | refine LeO.ite ?_ ?_
      | refine LeO.bind ?_ (fun _ => ?_)
theorem laws_FnRegionRules.mono : ∀ a0 k, LeO (laws_FnRegionRules.f k a0) (laws_FnRegionRules.f (k + 1) a0) := by
  intro a0 k
  obtain ⟨ih0, ih1, ih2, ih3⟩ := laws_FnRegionRules.mono_l k
  unfold laws_FnRegionRules.f
  repeat' first
      | (with_reducible exact ih0 _ _ _ _ _)
      | (with_reducible exact ih1 _ _ _ _ _)
      | (with_reducible exact ih2 _ _ _ _ _ _)
      | (with_reducible exact ih3 _ _ _ _ _ _ _ _)
      | (with_reducible exact impl_RegionRules.mono _ _ _)
      | (with_reducible exact impl_RuleHolds.mono _ _ _ _ _ _)
      | (with_reducible exact impl_RuleValid.mono _ _ _ _ _)
      | (with_reducible exact impl_SquareOf.mono _ _)
      | (with_reducible exact laws_alive.mono _)
      | (with_reducible exact laws_sameInts.mono _ _ _)
      | (with_reducible exact spec_DrawRegionRules.mono _ _)
      | (with_reducible exact spec_RegionRules.mono _ _ _)
      | (with_reducible exact LeO.refl _)
      | (with_reducible exact LeO.none _)
      | (with_reducible refine LeO.ite ?_ ?_)
      | (with_reducible refine LeO.bind ?_ (fun _ => ?_))
      | exact ih0 _ _ _ _ _
      | exact ih1 _ _ _ _ _
      | exact ih2 _ _ _ _ _ _
      | exact ih3 _ _ _ _ _ _ _ _
      | exact impl_RegionRules.mono _ _ _
      | exact impl_RuleHolds.mono _ _ _ _ _ _
      | exact impl_RuleValid.mono _ _ _ _ _
      | exact impl_SquareOf.mono _ _
      | exact laws_alive.mono _
      | exact laws_sameInts.mono _ _ _
      | exact spec_DrawRegionRules.mono _ _
      | exact spec_RegionRules.mono _ _ _
      | exact LeO.none _
      | refine LeO.ite ?_ ?_
      | refine LeO.bind ?_ (fun _ => ?_)
def laws_FnRegionRules.T16 : Bool × List (List Nat × List Nat) := (true, [([], []), ([], []), ([0, 1], [0, 1]), ([2], [2]), ([3], [3]), ([4], [4]), ([5], [5]), ([6], [6]), ([6], [6]), ([7, 8, 6], [6, 7, 8]), ([9, 6], [6, 9]), ([10, 6], [6, 10]), ([6], [6]), ([6], [6]), ([12, 13, 6], [6, 12, 13]), ([14, 6], [6, 14]), ([15, 6], [6, 15]), ([11, 16, 6, 6], [6, 11, 16]), ([17, 6], [6, 17]), ([6, 18], [6, 18]), ([19, 17], [19]), ([20], [20]), ([20], [20]), ([21, 22, 20], [20, 21, 22]), ([23, 20], [20, 23]), ([20], [20]), ([24, 25, 20, 20], [20, 24, 25]), ([26, 20], [20, 26]), ([20, 27], [20, 27])])
def laws_FnRegionRules.B16 : List Nat := [0, 0, 3, 7, 15, 31, 63, 127, 127, 511, 1023, 2047, 127, 127, 12415, 28799, 61567, 131071, 262143, 524287, 1048575, 2097151, 2097151, 8388607, 16777215, 2097151, 67108863, 134217727, 268435455]
theorem laws_FnRegionRules.tab16 : rtab .any (opsOf Try.f13 16) = laws_FnRegionRules.T16 := by kernel_rfl
theorem laws_FnRegionRules.bits16 : waitsOk laws_FnRegionRules.T16.2 laws_FnRegionRules.B16 = true := by kernel_rfl
set_option maxHeartbeats 8000000 in
set_option maxRecDepth 100000 in
theorem laws_FnRegionRules.calls (k : Nat) (A0 : Option Addr) (c0 : Nat) (l0 : List Int) (r : Bool) (w : World) (hr0 : Kd.C (Kd.int .u8) w A0 l0.length l0) (hc0 : l0.length ≤ c0) (h : laws_FnRegionRules.f k l0 = some r) :
    Calls Try.prog 13 #[.slice A0 l0.length c0] w fun e w' => e = .returned (.bool r) ∧ Below w.heap.size w w' := by
  have hu62 := Try.underlying62
  have HR0 := Aside0.mk hr0
  have HC0 := Aside0.mk hc0
  clear hr0 hc0
  have HB := Aside0.mk (Below.refl w.heap.size w)
  have H : (if (l0.length : Int) > 1048576 then (some true) else ((spec_DrawRegionRules.f k l0).bind fun bt269 => ((impl_RegionRules.f k bt269.1 bt269.2).bind fun bt273 => ((spec_RegionRules.f k bt269.1 bt269.2).bind fun bt277 => (if (bt273.1.length : Int) = (bt277.1.length : Int) then (laws_FnRegionRules.j0 k bt269.2 bt273.1 bt273.2 bt277.1 (bt273.2 != bt277.2)) else (laws_FnRegionRules.j0 k bt269.2 bt273.1 bt273.2 bt277.1 true)))))) = some r := h
  clear h
  by_cases c2 : (l0.length : Int) > 1048576
  · rw [if_pos c2] at H
    have c2b0 : decide (1048576 < (l0.length : Int)) = true := decide_eq_true c2
    have c2b1 : decide (1048576 < l0.length) = true := decide_eq_true (by omega)
    clear c2
    obtain rfl := Option.some.inj H
    go_enter Try.func13, Try.ntmps13
    go_wp2
    go_ret
    exact ⟨by first | rfl | (simp [errW_none, errW_some] <;> rfl) | (simp [*, errW_none, errW_some] <;> rfl), by repeat (first | (with_reducible first | exact HB.out | apply below_alloc | apply pw_below_drewN | apply below_drew1) | exact HB.out)⟩
  · rw [if_neg c2] at H
    have c2b0 : decide (1048576 < (l0.length : Int)) = false := decide_eq_false c2
    have c2b1 : decide (1048576 < l0.length) = false := decide_eq_false (by omega)
    clear c2
    replace H := Option.bind_eq_some_iff.mp H
    obtain ⟨⟨t269, t270⟩, A30, H⟩ := H
    replace H : ((impl_RegionRules.f k t269 t270).bind fun bt273 => ((spec_RegionRules.f k t269 t270).bind fun bt277 => (if (bt273.1.length : Int) = (bt277.1.length : Int) then (laws_FnRegionRules.j0 k t270 bt273.1 bt273.2 bt277.1 (bt273.2 != bt277.2)) else (laws_FnRegionRules.j0 k t270 bt273.1 bt273.2 bt277.1 true)))) = some r := H
    have A3 := Aside0.mk A30
    clear A30
    replace H := Option.bind_eq_some_iff.mp H
    obtain ⟨⟨t273, t274⟩, A40, H⟩ := H
    replace H : ((spec_RegionRules.f k t269 t270).bind fun bt277 => (if (t273.length : Int) = (bt277.1.length : Int) then (laws_FnRegionRules.j0 k t270 t273 t274 bt277.1 (t274 != bt277.2)) else (laws_FnRegionRules.j0 k t270 t273 t274 bt277.1 true))) = some r := H
    have A4 := Aside0.mk A40
    clear A40
    replace H := Option.bind_eq_some_iff.mp H
    obtain ⟨⟨t277, t278⟩, A50, H⟩ := H
    replace H : (if (t273.length : Int) = (t277.length : Int) then (laws_FnRegionRules.j0 k t270 t273 t274 t277 (t274 != t278)) else (laws_FnRegionRules.j0 k t270 t273 t274 t277 true)) = some r := H
    have A5 := Aside0.mk A50
    clear A50
    have HC6 := Aside0.mk H
    clear H
    go_enter Try.func13, Try.ntmps13
    go_upto_region 6 with (first | ((with_reducible refine gate_callee (f := 55) rfl ?_); refine goesL_ (some 20) rfl rfl Try.func55 (by kernel_rfl) rfl #[.slice A0 l0.length c0] rfl (by (try simp only [List.map_toArray, List.map_cons, List.map_nil]); first | done | rfl | (simp only [List.length_drop, List.length_take]; rfl)) ?_; (with_reducible refine (spec_DrawRegionRules.calls k _ _ l0 t269 t270 _ ?side1 ?side2 A3.out).mono ?_); (case side1 => repeat (first | exact HR0.out | (with_reducible refine Kd.C_alloc ?_ _) | (with_reducible refine Kd.C_drewN ?_ _) | (with_reducible refine Kd.C_drew ?_))); (case side2 => exact HC0.out); rintro e w7 ⟨v271, rfl, ho0, hb⟩; refine ⟨_, rfl, ?_⟩; have n0_ := Aside0.mk (Kd.Q_lower ho0 (below_size (by repeat (first | (with_reducible first | exact HB.out | apply below_alloc | apply pw_below_drewN | apply below_drew1) | exact HB.out)))); have n1_ := Aside0.mk (below_step (by repeat (first | (with_reducible first | exact HB.out | apply below_alloc | apply pw_below_drewN | apply below_drew1) | exact HB.out)) hb); clear HB; have HO272 := n0_; have HB := n1_; clear n0_ n1_; (try clear hb); (try clear hb2); (try clear hk); (try clear hi); (try clear ho0); obtain ⟨Ao8, co8, eo8, _⟩ := Kd.Q_slice HO272.out; subst eo8) | ((with_reducible refine gate_callee (f := 56) rfl ?_); refine goesL_ (some 26) rfl rfl Try.func56 (by kernel_rfl) rfl #[.slice Ao8 t269.length co8, .int .i64 t270] rfl (by (try simp only [List.map_toArray, List.map_cons, List.map_nil]); first | done | rfl | (simp only [List.length_drop, List.length_take]; rfl)) ?_; (with_reducible refine (impl_RegionRules.calls k _ _ t269 t270 t273 t274 _ ?side1 ?side2 A4.out).mono ?_); (case side1 => repeat (first | exact (Kd.Q_reads' HO272.out).2.2 | (with_reducible refine Kd.C_alloc ?_ _) | (with_reducible refine Kd.C_drewN ?_ _) | (with_reducible refine Kd.C_drew ?_))); (case side2 => exact (Kd.Q_reads' HO272.out).2.1); rintro e w9 ⟨v275, rfl, ho0, hb⟩; refine ⟨_, rfl, ?_⟩; have n0_ := Aside0.mk (Kd.Q_below (by (with_reducible repeat (first | apply Kd.Q_alloc | apply Kd.Q_drewN | apply Kd.Q_drew)); exact HO272.out) hb); have n1_ := Aside0.mk (Kd.S_lower (Kd.S_new' ho0 (Kd.Q_lt (by (with_reducible repeat (first | apply Kd.Q_alloc | apply Kd.Q_drewN | apply Kd.Q_drew)); exact HO272.out))) (below_size (by repeat (first | (with_reducible first | exact HB.out | apply below_alloc | apply pw_below_drewN | apply below_drew1) | exact HB.out)))); have n2_ := Aside0.mk (below_step (by repeat (first | (with_reducible first | exact HB.out | apply below_alloc | apply pw_below_drewN | apply below_drew1) | exact HB.out)) hb); clear HO272; clear HB; have HO272 := n0_; have HO276 := n1_; have HB := n2_; clear n0_ n1_ n2_; (try clear hb); (try clear hb2); (try clear hk); (try clear hi); (try clear ho0)) | ((with_reducible refine gate_callee (f := 57) rfl ?_); refine goesL_ (some 32) rfl rfl Try.func57 (by kernel_rfl) rfl #[.slice Ao8 t269.length co8, .int .i64 t270] rfl (by (try simp only [List.map_toArray, List.map_cons, List.map_nil]); first | done | rfl | (simp only [List.length_drop, List.length_take]; rfl)) ?_; (with_reducible refine (spec_RegionRules.calls k _ _ t269 t270 t277 t278 _ ?side1 ?side2 A5.out).mono ?_); (case side1 => repeat (first | exact (Kd.Q_reads' HO272.out).2.2 | (with_reducible refine Kd.C_alloc ?_ _) | (with_reducible refine Kd.C_drewN ?_ _) | (with_reducible refine Kd.C_drew ?_))); (case side2 => exact (Kd.Q_reads' HO272.out).2.1); rintro e w10 ⟨v279, rfl, ho0, hb⟩; refine ⟨_, rfl, ?_⟩; have n0_ := Aside0.mk (Kd.Q_below (by (with_reducible repeat (first | apply Kd.Q_alloc | apply Kd.Q_drewN | apply Kd.Q_drew)); exact HO272.out) hb); have n1_ := Aside0.mk (Kd.S_elder' (by (with_reducible repeat (first | apply Kd.S_alloc | apply Kd.S_drewN | apply Kd.S_drew)); exact HO276.out) (Kd.S_base ho0) hb); have n2_ := Aside0.mk (Kd.S_lower (Kd.S_new' (Kd.S_new' ho0 (Kd.Q_lt (by (with_reducible repeat (first | apply Kd.Q_alloc | apply Kd.Q_drewN | apply Kd.Q_drew)); exact HO272.out))) (Kd.S_lt (by (with_reducible repeat (first | apply Kd.S_alloc | apply Kd.S_drewN | apply Kd.S_drew)); exact HO276.out))) (below_size (by repeat (first | (with_reducible first | exact HB.out | apply below_alloc | apply pw_below_drewN | apply below_drew1) | exact HB.out)))); have n3_ := Aside0.mk (below_step (by repeat (first | (with_reducible first | exact HB.out | apply below_alloc | apply pw_below_drewN | apply below_drew1) | exact HB.out)) hb); clear HO272; clear HO276; clear HB; have HO272 := n0_; have HO276 := n1_; have HO280 := n2_; have HB := n3_; clear n0_ n1_ n2_ n3_; (try clear hb); (try clear hb2); (try clear hk); (try clear hi); (try clear ho0)))
    (try simp only [Act.put, List.setIfInBounds_toArray, List.set_cons_zero, List.set_cons_succ])
    go_cut [44] (fun v44 wc => ∃ (kq : Nat) (x44_5 : Bool), v44 = .bool x44_5 ∧ Aside0 (laws_FnRegionRules.j0 kq t270 t273 t274 t277 x44_5 = some r) ∧ Aside0 (kq ≤ k) ∧ Aside0 (Kd.S k62 62 wc w.heap.size (fun k_ => some k_ ≠ (v279 : Value).ownBlock) v275 t273) ∧ Aside0 (Kd.S k62 62 wc w.heap.size (fun k_ => some k_ ≠ (v275 : Value).ownBlock) v279 t277) ∧ Aside0 (Below w.heap.size w wc))
    case first =>
      have H := HC6.out
      clear HC6
      by_cases c11 : (t273.length : Int) = (t277.length : Int)
      · rw [if_pos c11] at H
        have c11b0 : ((t273.length : Int) == (t277.length : Int)) = true := beq_iff_eq.mpr c11
        have c11b1 : ((t273.length : Int) != (t277.length : Int)) = false := bne_eq_false_iff_eq.mpr c11
        have c11b2 : (t273.length == t277.length) = true := by first | simpa using c11 | (simp at c11 ⊢; omega)
        clear c11
        (first | rw [c11b0] | (simp only [i64_w, i32_w]; rw [c11b0]) | skip)
        have H' := Aside0.mk H
        clear H
        obtain ⟨Ao12, co12, eo12⟩ := Kd.S_slice HO276.out
        subst eo12
        obtain ⟨Ao13, co13, eo13⟩ := Kd.S_slice HO280.out
        subst eo13
        go_wp2
        go_meet
        case rel => exact ⟨_, ((t274 != t278)), (by first | rfl | (simp; done) | (simp [*]; done)), H', ⟨by first | omega | exact Nat.le_refl _⟩, ⟨by (with_reducible repeat (first | apply Kd.S_alloc | apply Kd.S_drewN | apply Kd.S_drew)); exact Kd.S_mono HO276.out (fun _ hk => hk.2)⟩, ⟨by (with_reducible repeat (first | apply Kd.S_alloc | apply Kd.S_drewN | apply Kd.S_drew)); exact Kd.S_mono HO280.out (fun _ hk => hk.2)⟩, ⟨by repeat (first | (with_reducible first | exact HB.out | apply below_alloc | apply pw_below_drewN | apply below_drew1) | exact HB.out)⟩⟩
      · rw [if_neg c11] at H
        have c11b0 : ((t273.length : Int) == (t277.length : Int)) = false := beq_eq_false_iff_ne.mpr c11
        have c11b1 : ((t273.length : Int) != (t277.length : Int)) = true := bne_iff_ne.mpr c11
        have c11b2 : (t273.length == t277.length) = false := by first | simpa using c11 | (simp at c11 ⊢; omega)
        (first | rw [c11b0] | (simp only [i64_w, i32_w]; rw [c11b0]) | skip)
        have H' := Aside0.mk H
        clear H
        obtain ⟨Ao14, co14, eo14⟩ := Kd.S_slice HO276.out
        subst eo14
        obtain ⟨Ao15, co15, eo15⟩ := Kd.S_slice HO280.out
        subst eo15
        go_wp2
        go_meet
        case rel => exact ⟨_, (true), (by first | rfl | (simp; done) | (simp [*]; done)), H', ⟨by first | omega | exact Nat.le_refl _⟩, ⟨by (with_reducible repeat (first | apply Kd.S_alloc | apply Kd.S_drewN | apply Kd.S_drew)); exact Kd.S_mono HO276.out (fun _ hk => hk.2)⟩, ⟨by (with_reducible repeat (first | apply Kd.S_alloc | apply Kd.S_drewN | apply Kd.S_drew)); exact Kd.S_mono HO280.out (fun _ hk => hk.2)⟩, ⟨by repeat (first | (with_reducible first | exact HB.out | apply below_alloc | apply pw_below_drewN | apply below_drew1) | exact HB.out)⟩⟩
    case rest =>
      clear HC6
      try clear c1
      try clear c2
      try clear c2b0
      try clear c2b1
      try clear p2
      try clear c5
      try clear c11
      try clear c11b0
      try clear c11b1
      try clear c11b2
      try clear c13
      obtain ⟨kq, x44_5, rfl, HA, HJ5, HO_5, HO_7, HB⟩ := hcut
      cases kq with
      | zero => exact absurd HA.out (by simp [laws_FnRegionRules.j0])
      | succ kj5 =>
        have H := HA.out
        clear HA
        simp only [laws_FnRegionRules.j0] at H
        by_cases c16 : x44_5 = true
        · subst c16
          have H1 : (some false) = some r := by rw [if_pos rfl] at H; exact H
          clear H
          have H := H1
          clear H1
          obtain rfl := Option.some.inj H
          go_wp2
          go_ret
          exact ⟨by first | rfl | (simp [errW_none, errW_some] <;> rfl) | (simp [*, errW_none, errW_some] <;> rfl), by repeat (first | (with_reducible first | exact HB.out | apply below_alloc | apply pw_below_drewN | apply below_drew1) | exact HB.out)⟩
        · replace c16 := Bool.eq_false_iff.mpr c16
          subst c16
          have H1 : (if t274 = true then ((impl_SquareOf.f kj5 t270).bind fun t282 => (if (t282.length : Int) = (wrap64 (t270 * t270)) then (laws_FnRegionRules.l0 kj5 t270 t273 t277 t282 0) else (some false))) else (if (t273.length : Int) = 0 then ((laws_alive.f kj5).bind fun t281 => (some t281)) else (some false))) = some r := by rw [if_neg (show ¬ (false = true) by decide)] at H; exact H
          clear H
          have H := H1
          clear H1
          by_cases c17 : t274 = true
          · subst c17
            have H1 : ((impl_SquareOf.f kj5 t270).bind fun t282 => (if (t282.length : Int) = (wrap64 (t270 * t270)) then (laws_FnRegionRules.l0 kj5 t270 t273 t277 t282 0) else (some false))) = some r := by rw [if_pos rfl] at H; exact H
            clear H
            have H := H1
            clear H1
            replace H := Option.bind_eq_some_iff.mp H
            obtain ⟨t282, A180, H⟩ := H
            replace H : (if (t282.length : Int) = (wrap64 (t270 * t270)) then (laws_FnRegionRules.l0 kj5 t270 t273 t277 t282 0) else (some false)) = some r := H
            have A18 := Aside0.mk A180
            clear A180
            by_cases c19 : (t282.length : Int) = (wrap64 (t270 * t270))
            · rw [if_pos c19] at H
              have c19b0 : ((t282.length : Int) == (wrap64 (t270 * t270))) = true := beq_iff_eq.mpr c19
              have c19b1 : ((t282.length : Int) != (wrap64 (t270 * t270))) = false := bne_eq_false_iff_eq.mpr c19
              clear c19
              have H' := Aside0.mk H
              clear H
              go_wp2_with (first | ((with_reducible refine gate_callee (f := 58) rfl ?_); refine goesL_ (some 54) rfl rfl Try.func58 (by kernel_rfl) rfl #[.int .i64 t270] rfl (by (try simp only [List.map_toArray, List.map_cons, List.map_nil]); first | done | rfl | (simp only [List.length_drop, List.length_take]; rfl)) ?_; (with_reducible refine (impl_SquareOf.calls kj5 t270 t282 _ A18.out).mono ?_); rintro e w20 ⟨v283, rfl, ho0, hb⟩; refine ⟨_, rfl, ?_⟩; have n0_ := Aside0.mk (Kd.S_elder' (by (with_reducible repeat (first | apply Kd.S_alloc | apply Kd.S_drewN | apply Kd.S_drew)); exact HO_5.out) (Kd.R_base ho0) hb); have n1_ := Aside0.mk (Kd.S_elder' (by (with_reducible repeat (first | apply Kd.S_alloc | apply Kd.S_drewN | apply Kd.S_drew)); exact HO_7.out) (Kd.R_base ho0) hb); have n2_ := Aside0.mk (Kd.R_lower ho0 (below_size (by repeat (first | (with_reducible first | exact HB.out | apply below_alloc | apply pw_below_drewN | apply below_drew1) | exact HB.out)))); have n3_ := Aside0.mk (below_step (by repeat (first | (with_reducible first | exact HB.out | apply below_alloc | apply pw_below_drewN | apply below_drew1) | exact HB.out)) hb); clear HO_5; clear HO_7; clear HB; have HO_5 := n0_; have HO_7 := n1_; have HO284 := n2_; have HB := n3_; clear n0_ n1_ n2_ n3_; (try clear hb); (try clear hb2); (try clear hk); (try clear hi); (try clear ho0); obtain ⟨Ao21, co21, eo21⟩ := Kd.R_slice HO284.out; subst eo21))
              go_loopg [10] kj5 (fun kq v10 w' => ∃ (x10_2 : Int), v10 = .int .i64 x10_2 ∧ Aside0 (laws_FnRegionRules.l0 kq t270 t273 t277 t282 x10_2 = some r) ∧ Aside0 (kq ≤ kj5) ∧ Aside0 (Kd.S k62 62 w' w.heap.size (fun k_ => some k_ ≠ (v279 : Value).ownBlock ∧ some k_ ≠ ((.slice Ao21 t282.length co21) : Value).ownBlock) v275 t273) ∧ Aside0 (Kd.S k62 62 w' w.heap.size (fun k_ => some k_ ≠ (v275 : Value).ownBlock ∧ some k_ ≠ ((.slice Ao21 t282.length co21) : Value).ownBlock) v279 t277) ∧ Aside0 (Kd.R (Kd.int .i64) 3 w' w.heap.size (fun _ => True) (.slice Ao21 t282.length co21) t282) ∧ Aside0 (Below w.heap.size w w'))
              case atStart => exact ⟨(0), (by first | rfl | (simp; done) | (simp [*]; done)), H', ⟨Nat.le_refl _⟩, ⟨by (with_reducible repeat (first | apply Kd.S_alloc | apply Kd.S_drewN | apply Kd.S_drew)); exact HO_5.out⟩, ⟨by (with_reducible repeat (first | apply Kd.S_alloc | apply Kd.S_drewN | apply Kd.S_drew)); exact HO_7.out⟩, ⟨by (with_reducible repeat (first | apply Kd.R_alloc | apply Kd.R_drewN | apply Kd.R_drew)); exact HO284.out⟩, ⟨by repeat (first | (with_reducible first | exact HB.out | apply below_alloc | apply pw_below_drewN | apply below_drew1) | exact HB.out)⟩⟩
              case round =>
                clear H'
                try clear c1
                try clear c2
                try clear c2b0
                try clear c2b1
                try clear p2
                try clear c5
                try clear p6
                try clear c11
                try clear c11b0
                try clear c11b1
                try clear c11b2
                try clear c13
                try clear c16
                try clear c17
                try clear c19
                try clear c19b0
                try clear c19b1
                try clear p2
                obtain ⟨x10_2, rfl, HA, HK2, HO_5, HO_7, HO_9, HB⟩ := hrel
                cases gk with
                | zero => exact absurd HA.out (by simp [laws_FnRegionRules.l0])
                | succ k2 =>
                  have H := HA.out
                  clear HA
                  simp only [laws_FnRegionRules.l0] at H
                  by_cases c22 : x10_2 < (t273.length : Int)
                  · rw [if_pos c22] at H
                    have c22b0 : decide (x10_2 < (t273.length : Int)) = true := decide_eq_true c22
                    clear c22
                    have HC23 := Aside0.mk H
                    clear H
                    obtain ⟨Ao24, co24, eo24⟩ := Kd.S_slice HO_5.out
                    subst eo24
                    go_upto_region 16 with (fail)
                    go_cut [95] (fun v95 wc => ∃ (kq : Nat) (x95_22 : Bool), v95 = .bool x95_22 ∧ Aside0 (laws_FnRegionRules.j2 kq t270 t273 t277 t282 x10_2 x95_22 = some r) ∧ Aside0 (kq ≤ k2) ∧ Aside0 (Kd.S k62 62 wc w.heap.size (fun k_ => some k_ ≠ (v279 : Value).ownBlock ∧ some k_ ≠ ((.slice Ao21 t282.length co21) : Value).ownBlock) (.slice Ao24 t273.length co24) t273) ∧ Aside0 (Kd.S k62 62 wc w.heap.size (fun k_ => some k_ ≠ ((.slice Ao24 t273.length co24) : Value).ownBlock ∧ some k_ ≠ ((.slice Ao21 t282.length co21) : Value).ownBlock) v279 t277) ∧ Aside0 (Kd.R (Kd.int .i64) 3 wc w.heap.size (fun _ => True) (.slice Ao21 t282.length co21) t282) ∧ Aside0 (Below w.heap.size w wc))
                    case first =>
                      have H := HC23.out
                      clear HC23
                      by_cases c25 : 0 ≤ x10_2
                      · rw [if_pos c25] at H
                        have c25b0 : decide (0 ≤ x10_2) = true := decide_eq_true c25
                        clear c25
                        (first | rw [c25b0] | (simp only [i64_w, i32_w]; rw [c25b0]) | skip)
                        by_cases c26 : ((rd_T62 t273 x10_2).f0) = 1
                        · rw [if_pos c26] at H
                          have c26b0 : (((rd_T62 t273 x10_2).f0) == 1) = true := beq_iff_eq.mpr c26
                          have c26b1 : (((rd_T62 t273 x10_2).f0) != 1) = false := bne_eq_false_iff_eq.mpr c26
                          clear c26
                          by_cases c27 : x10_2 < (t277.length : Int)
                          · rw [if_pos c27] at H
                            have c27b0 : decide (x10_2 < (t277.length : Int)) = true := decide_eq_true c27
                            clear c27
                            replace H := Option.bind_eq_some_iff.mp H
                            obtain ⟨t288, A280, H⟩ := H
                            replace H : (if t288 = true then ((impl_RuleValid.f k2 ((rd_T62 t273 x10_2).f0) ((rd_T62 t273 x10_2).f1) ((rd_T62 t273 x10_2).f2) t270).bind fun t290 => (laws_FnRegionRules.j2 k2 t270 t273 t277 t282 x10_2 (!t290))) else (laws_FnRegionRules.j2 k2 t270 t273 t277 t282 x10_2 true)) = some r := H
                            have A28 := Aside0.mk A280
                            clear A280
                            by_cases c29 : t288 = true
                            · subst c29
                              have H1 : ((impl_RuleValid.f k2 ((rd_T62 t273 x10_2).f0) ((rd_T62 t273 x10_2).f1) ((rd_T62 t273 x10_2).f2) t270).bind fun t290 => (laws_FnRegionRules.j2 k2 t270 t273 t277 t282 x10_2 (!t290))) = some r := by rw [if_pos rfl] at H; exact H
                              clear H
                              have H := H1
                              clear H1
                              replace H := Option.bind_eq_some_iff.mp H
                              obtain ⟨t290, A300, H⟩ := H
                              replace H : (laws_FnRegionRules.j2 k2 t270 t273 t277 t282 x10_2 (!t290)) = some r := H
                              have A30 := Aside0.mk A300
                              clear A300
                              have H' := Aside0.mk H
                              clear H
                              try go_wp2
                              have n0_ := Aside0.mk (Kd.S_drew HO_5.out)
                              have n1_ := Aside0.mk (Kd.S_drew HO_7.out)
                              have n2_ := Aside0.mk (Kd.R_drew HO_9.out)
                              have n3_ := Aside0.mk (below_drew1 HB.out)
                              clear HO_5
                              clear HO_7
                              clear HO_9
                              clear HB
                              have HO_5 := n0_
                              have HO_7 := n1_
                              have HO_9 := n2_
                              have HB := n3_
                              clear n0_ n1_ n2_ n3_
                              have p285 : 0 ≤ (x10_2 : Int) := of_decide_eq_true (by first | (with_reducible assumption) | assumption)
                              have q285 : x10_2 < (t273.length : Int) := of_decide_eq_true (by first | (with_reducible assumption) | assumption)
                              obtain ⟨ad285, A285_1, c285_1, e285, hx285_0, hx285_1, hx285_2, hl285_1, hi285_1⟩ := at_T62 (Kd.S_reads' HO_5.out).2.2 x10_2 p285 q285
                              cases e285
                              obtain ⟨ce285, hce285, hMe285, hcc285⟩ := Kd.S_get HO_5.out z62 x10_2 p285 (by first | exact q285 | exact of_decide_eq_true (by first | (with_reducible assumption) | assumption) | (have e_ := (Kd.S_reads' HO_5.out).1; omega))
                              obtain ⟨ve285_1, rfl, ge285_1⟩ := k62_openM hMe285
                              have hv285_1 := hcc285 1 _ rfl
                              rw [add_field _ _ 1 (by omega)] at hv285_1
                              replace hv285_1 := Option.some.inj (hv285_1.symm.trans hx285_1)
                              rw [hv285_1] at ge285_1
                              have HL285_1 := Aside0.mk (show Kd.R (Kd.int .i64) 3 _ _ _ _ ((rd_T62 t273 x10_2).f1) from ge285_1)
                              clear hv285_1 ge285_1
                              clear hcc285 hce285
                              have HR285_1 := Aside0.mk hi285_1
                              have HC285_1 := Aside0.mk hl285_1
                              clear hi285_1 hl285_1
                              replace p285 := eq_true p285
                              replace q285 := eq_true q285
                              have p286 : 0 ≤ (x10_2 : Int) := of_decide_eq_true (by first | (with_reducible assumption) | assumption)
                              have q286 : x10_2 < (t273.length : Int) := of_decide_eq_true (by first | (with_reducible assumption) | assumption)
                              obtain ⟨ad286, A286_1, c286_1, e286, hx286_0, hx286_1, hx286_2, hl286_1, hi286_1⟩ := at_T62 (Kd.S_reads' HO_5.out).2.2 x10_2 p286 q286
                              obtain rfl : ad285 = ad286 := (by injection e286)
                              obtain ⟨ce286, hce286, hMe286, hcc286⟩ := Kd.S_get HO_5.out z62 x10_2 p286 (by first | exact q286 | exact of_decide_eq_true (by first | (with_reducible assumption) | assumption) | (have e_ := (Kd.S_reads' HO_5.out).1; omega))
                              obtain ⟨ve286_1, rfl, ge286_1⟩ := k62_openM hMe286
                              have hv286_1 := hcc286 1 _ rfl
                              rw [add_field _ _ 1 (by omega)] at hv286_1
                              replace hv286_1 := Option.some.inj (hv286_1.symm.trans hx286_1)
                              rw [hv286_1] at ge286_1
                              have HL286_1 := Aside0.mk (show Kd.R (Kd.int .i64) 3 _ _ _ _ ((rd_T62 t273 x10_2).f1) from ge286_1)
                              clear hv286_1 ge286_1
                              clear hcc286 hce286
                              have HR286_1 := Aside0.mk hi286_1
                              have HC286_1 := Aside0.mk hl286_1
                              clear hi286_1 hl286_1
                              replace p286 := eq_true p286
                              replace q286 := eq_true q286
                              have ea_ := Option.some.inj (hx285_1.symm.trans hx286_1)
                              injection ea_ with ea_ en_ ec_
                              subst ea_
                              subst ec_
                              clear en_
                              obtain ⟨Ao32, co32, eo32⟩ := Kd.S_slice HO_7.out
                              (first | subst eo32 | (injection eo32 with f1_ f2_ f3_; have f4_ := f1_.symm; have f5_ := f3_.symm; clear f1_ f2_ f3_; subst f4_; subst f5_))
                              have p287 : 0 ≤ (x10_2 : Int) := of_decide_eq_true (by first | (with_reducible assumption) | assumption)
                              have q287 : x10_2 < (t277.length : Int) := of_decide_eq_true (by first | (with_reducible assumption) | assumption)
                              obtain ⟨ad287, A287_1, c287_1, e287, hx287_0, hx287_1, hx287_2, hl287_1, hi287_1⟩ := at_T62 (Kd.S_reads' HO_7.out).2.2 x10_2 p287 q287
                              cases e287
                              obtain ⟨ce287, hce287, hMe287, hcc287⟩ := Kd.S_get HO_7.out z62 x10_2 p287 (by first | exact q287 | exact of_decide_eq_true (by first | (with_reducible assumption) | assumption) | (have e_ := (Kd.S_reads' HO_7.out).1; omega))
                              obtain ⟨ve287_1, rfl, ge287_1⟩ := k62_openM hMe287
                              have hv287_1 := hcc287 1 _ rfl
                              rw [add_field _ _ 1 (by omega)] at hv287_1
                              replace hv287_1 := Option.some.inj (hv287_1.symm.trans hx287_1)
                              rw [hv287_1] at ge287_1
                              have HL287_1 := Aside0.mk (show Kd.R (Kd.int .i64) 3 _ _ _ _ ((rd_T62 t277 x10_2).f1) from ge287_1)
                              clear hv287_1 ge287_1
                              clear hcc287 hce287
                              have HR287_1 := Aside0.mk hi287_1
                              have HC287_1 := Aside0.mk hl287_1
                              clear hi287_1 hl287_1
                              replace p287 := eq_true p287
                              replace q287 := eq_true q287
                              have p289 : 0 ≤ (x10_2 : Int) := of_decide_eq_true (by first | (with_reducible assumption) | assumption)
                              have q289 : x10_2 < (t273.length : Int) := of_decide_eq_true (by first | (with_reducible assumption) | assumption)
                              obtain ⟨ad289, A289_1, c289_1, e289, hx289_0, hx289_1, hx289_2, hl289_1, hi289_1⟩ := at_T62 (Kd.S_reads' HO_5.out).2.2 x10_2 p289 q289
                              obtain rfl : ad285 = ad289 := (by injection e289)
                              obtain ⟨ce289, hce289, hMe289, hcc289⟩ := Kd.S_get HO_5.out z62 x10_2 p289 (by first | exact q289 | exact of_decide_eq_true (by first | (with_reducible assumption) | assumption) | (have e_ := (Kd.S_reads' HO_5.out).1; omega))
                              obtain ⟨ve289_1, rfl, ge289_1⟩ := k62_openM hMe289
                              have hv289_1 := hcc289 1 _ rfl
                              rw [add_field _ _ 1 (by omega)] at hv289_1
                              replace hv289_1 := Option.some.inj (hv289_1.symm.trans hx289_1)
                              rw [hv289_1] at ge289_1
                              have HL289_1 := Aside0.mk (show Kd.R (Kd.int .i64) 3 _ _ _ _ ((rd_T62 t273 x10_2).f1) from ge289_1)
                              clear hv289_1 ge289_1
                              clear hcc289 hce289
                              have HR289_1 := Aside0.mk hi289_1
                              have HC289_1 := Aside0.mk hl289_1
                              clear hi289_1 hl289_1
                              replace p289 := eq_true p289
                              replace q289 := eq_true q289
                              have ea_ := Option.some.inj (hx285_1.symm.trans hx289_1)
                              injection ea_ with ea_ en_ ec_
                              subst ea_
                              subst ec_
                              clear en_
                              refine start_ (n := 29) (S := fun w' => w'.cell? (ad285.add ((x10_2).toNat * 3)) = some (.int .i64 ((rd_T62 t273 x10_2).f0)) ∧ w'.cell? ⟨(ad285.add ((x10_2).toNat * 3)).block, (ad285.add ((x10_2).toNat * 3)).off + 1, none⟩ = some (.slice A285_1 ((rd_T62 t273 x10_2).f1).length c285_1) ∧ w'.cell? ⟨(ad285.add ((x10_2).toNat * 3)).block, (ad285.add ((x10_2).toNat * 3)).off + 2, none⟩ = some (.int .i64 ((rd_T62 t273 x10_2).f2)) ∧ w'.cell? (ad285.add ((x10_2).toNat * 3)) = some (.int .i64 ((rd_T62 t273 x10_2).f0)) ∧ w'.cell? ⟨(ad285.add ((x10_2).toNat * 3)).block, (ad285.add ((x10_2).toNat * 3)).off + 1, none⟩ = some (.slice A285_1 ((rd_T62 t273 x10_2).f1).length c285_1) ∧ w'.cell? ⟨(ad285.add ((x10_2).toNat * 3)).block, (ad285.add ((x10_2).toNat * 3)).off + 2, none⟩ = some (.int .i64 ((rd_T62 t273 x10_2).f2)) ∧ w'.cell? (ad287.add ((x10_2).toNat * 3)) = some (.int .i64 ((rd_T62 t277 x10_2).f0)) ∧ w'.cell? ⟨(ad287.add ((x10_2).toNat * 3)).block, (ad287.add ((x10_2).toNat * 3)).off + 1, none⟩ = some (.slice A287_1 ((rd_T62 t277 x10_2).f1).length c287_1) ∧ w'.cell? ⟨(ad287.add ((x10_2).toNat * 3)).block, (ad287.add ((x10_2).toNat * 3)).off + 2, none⟩ = some (.int .i64 ((rd_T62 t277 x10_2).f2)) ∧ w'.cell? (ad285.add ((x10_2).toNat * 3)) = some (.int .i64 ((rd_T62 t273 x10_2).f0)) ∧ w'.cell? ⟨(ad285.add ((x10_2).toNat * 3)).block, (ad285.add ((x10_2).toNat * 3)).off + 1, none⟩ = some (.slice A285_1 ((rd_T62 t273 x10_2).f1).length c285_1) ∧ w'.cell? ⟨(ad285.add ((x10_2).toNat * 3)).block, (ad285.add ((x10_2).toNat * 3)).off + 2, none⟩ = some (.int .i64 ((rd_T62 t273 x10_2).f2))) (ds := []) #[false, false, false, false, false, false, false, false, false, false, false, false, false, false, false, false, false, false, false, false, false, false, false, false, false, false, false, false, false] (by kernel_rfl) rfl rfl ⟨hx285_0, hx285_1, hx285_2, hx286_0, hx286_1, hx286_2, hx287_0, hx287_1, hx287_2, hx289_0, hx289_1, hx289_2⟩ (fun hHeld => ?_); refine with_tabW laws_FnRegionRules.tab16 laws_FnRegionRules.bits16 (fun HT_ HW_ => ?_)
                              generalize wr.drew = w31 at HO_5 HO_7 HO_9 HB HL285_1 HL286_1 HL287_1 HL289_1 HR285_1 HR286_1 HR287_1 HR289_1 hx285_0 hx285_1 hx285_2 hx286_0 hx286_1 hx286_2 hx287_0 hx287_1 hx287_2 hx289_0 hx289_1 hx289_2 hHeld ⊢
                              refine pure_ (i := 0) (N := some 67) (v := ?_) (a' := ?_) #[true, false, false, false, false, false, false, false, false, false, false, false, false, false, false, false, false, false, false, false, false, false, false, false, false, false, false, false, false] rfl rfl (any_of HT_.out (by kernel_rfl)) (fun _ _ _ h => h) (Or.inl ⟨by rfl, ?_⟩) ?_ ?_
                              rotate_left
                              · intro w'
                                go_simp
                                with_reducible rfl
                              rotate_left
                              · simp only [Act.put, List.setIfInBounds_toArray, List.set_cons_zero, List.set_cons_succ, i64_w, i32_w]
                                rfl
                              refine pure_ (i := 1) (N := some 68) (v := ?_) (a' := ?_) #[true, true, false, false, false, false, false, false, false, false, false, false, false, false, false, false, false, false, false, false, false, false, false, false, false, false, false, false, false] rfl rfl (any_of HT_.out (by kernel_rfl)) (fun _ _ _ h => h) (Or.inl ⟨by rfl, ?_⟩) ?_ ?_
                              rotate_left
                              · intro w'
                                go_simp
                                with_reducible rfl
                              rotate_left
                              · simp only [Act.put, List.setIfInBounds_toArray, List.set_cons_zero, List.set_cons_succ, i64_w, i32_w]
                                rfl
                              refine pure_ (i := 2) (N := some 69) (v := ?_) (a' := ?_) #[true, true, true, false, false, false, false, false, false, false, false, false, false, false, false, false, false, false, false, false, false, false, false, false, false, false, false, false, false] rfl rfl (any_of HT_.out (by kernel_rfl)) (fun _ _ _ h => h) (Or.inl ⟨by rfl, ?_⟩) ?_ ?_
                              rotate_left
                              · intro w'
                                go_simp
                                with_reducible rfl
                              rotate_left
                              · simp only [Act.put, List.setIfInBounds_toArray, List.set_cons_zero, List.set_cons_succ, i64_w, i32_w]
                                rfl
                              refine pure_ (i := 3) (N := some 70) (v := ?_) (a' := ?_) #[true, true, true, true, false, false, false, false, false, false, false, false, false, false, false, false, false, false, false, false, false, false, false, false, false, false, false, false, false] rfl rfl (any_of HT_.out (by kernel_rfl)) (fun _ _ _ h => h) (Or.inl ⟨by rfl, ?_⟩) ?_ ?_
                              rotate_left
                              · intro w'
                                go_simp
                                with_reducible rfl
                              rotate_left
                              · simp only [Act.put, List.setIfInBounds_toArray, List.set_cons_zero, List.set_cons_succ, i64_w, i32_w]
                                rfl
                              refine take_ (i := 4) (N := some 71) (v := ?_) (a' := ?_) #[true, true, true, true, true, false, false, false, false, false, false, false, false, false, false, false, false, false, false, false, false, false, false, false, false, false, false, false, false] rfl rfl (take_ofW HT_.out HW_.out (by kernel_rfl)) (fun _ _ _ h => h) (Or.inl ⟨by rfl, ?_⟩) hHeld ?_ ?_
                              rotate_left
                              · rintro w' ⟨s0, s1, s2, s3, s4, s5, s6, s7, s8, s9, s10, s11⟩
                                go_simp
                                with_reducible rfl
                              rotate_left
                              · simp only [Act.put, List.setIfInBounds_toArray, List.set_cons_zero, List.set_cons_succ, i64_w, i32_w]
                                rfl
                              refine pure_ (i := 5) (N := some 72) (v := ?_) (a' := ?_) #[true, true, true, true, true, true, false, false, false, false, false, false, false, false, false, false, false, false, false, false, false, false, false, false, false, false, false, false, false] rfl rfl (any_of HT_.out (by kernel_rfl)) (fun _ _ _ h => h) (Or.inl ⟨by rfl, ?_⟩) ?_ ?_
                              rotate_left
                              · intro w'
                                go_simp
                                with_reducible rfl
                              rotate_left
                              · simp only [Act.put, List.setIfInBounds_toArray, List.set_cons_zero, List.set_cons_succ, i64_w, i32_w]
                                rfl
                              refine pure_ (i := 6) (N := some 73) (v := ?_) (a' := ?_) #[true, true, true, true, true, true, true, false, false, false, false, false, false, false, false, false, false, false, false, false, false, false, false, false, false, false, false, false, false] rfl rfl (any_of HT_.out (by kernel_rfl)) (fun _ _ _ h => h) (Or.inl ⟨by rfl, ?_⟩) ?_ ?_
                              rotate_left
                              · intro w'
                                go_simp
                                with_reducible rfl
                              rotate_left
                              · simp only [Act.put, List.setIfInBounds_toArray, List.set_cons_zero, List.set_cons_succ, i64_w, i32_w]
                                rfl
                              refine pure_ (i := 7) (N := some 74) (v := ?_) (a' := ?_) #[true, true, true, true, true, true, true, true, false, false, false, false, false, false, false, false, false, false, false, false, false, false, false, false, false, false, false, false, false] rfl rfl (any_of HT_.out (by kernel_rfl)) (fun _ _ _ h => h) (Or.inl ⟨by rfl, ?_⟩) ?_ ?_
                              rotate_left
                              · intro w'
                                go_simp
                                with_reducible rfl
                              rotate_left
                              · simp only [Act.put, List.setIfInBounds_toArray, List.set_cons_zero, List.set_cons_succ, i64_w, i32_w]
                                rfl
                              refine pure_ (i := 8) (N := some 75) (v := ?_) (a' := ?_) #[true, true, true, true, true, true, true, true, true, false, false, false, false, false, false, false, false, false, false, false, false, false, false, false, false, false, false, false, false] rfl rfl (any_of HT_.out (by kernel_rfl)) (fun _ _ _ h => h) (Or.inl ⟨by rfl, ?_⟩) ?_ ?_
                              rotate_left
                              · intro w'
                                go_simp
                                with_reducible rfl
                              rotate_left
                              · simp only [Act.put, List.setIfInBounds_toArray, List.set_cons_zero, List.set_cons_succ, i64_w, i32_w]
                                rfl
                              refine pure_ (i := 9) (N := some 76) (v := ?_) (a' := ?_) #[true, true, true, true, true, true, true, true, true, true, false, false, false, false, false, false, false, false, false, false, false, false, false, false, false, false, false, false, false] rfl rfl (any_of HT_.out (by kernel_rfl)) (fun _ _ _ h => h) (Or.inl ⟨by rfl, ?_⟩) ?_ ?_
                              rotate_left
                              · intro w'
                                go_simp
                                with_reducible rfl
                              rotate_left
                              · simp only [Act.put, List.setIfInBounds_toArray, List.set_cons_zero, List.set_cons_succ, i64_w, i32_w]
                                rfl
                              refine pure_ (i := 10) (N := some 77) (v := ?_) (a' := ?_) #[true, true, true, true, true, true, true, true, true, true, true, false, false, false, false, false, false, false, false, false, false, false, false, false, false, false, false, false, false] rfl rfl (any_of HT_.out (by kernel_rfl)) (fun _ _ _ h => h) (Or.inl ⟨by rfl, ?_⟩) ?_ ?_
                              rotate_left
                              · intro w'
                                go_simp
                                with_reducible rfl
                              rotate_left
                              · simp only [Act.put, List.setIfInBounds_toArray, List.set_cons_zero, List.set_cons_succ, i64_w, i32_w]
                                rfl
                              refine pure_ (i := 12) (N := some 79) (v := ?_) (a' := ?_) #[true, true, true, true, true, true, true, true, true, true, true, false, true, false, false, false, false, false, false, false, false, false, false, false, false, false, false, false, false] rfl rfl (any_of HT_.out (by kernel_rfl)) (fun _ _ _ h => h) (Or.inl ⟨by rfl, ?_⟩) ?_ ?_
                              rotate_left
                              · intro w'
                                go_simp
                                with_reducible rfl
                              rotate_left
                              · simp only [Act.put, List.setIfInBounds_toArray, List.set_cons_zero, List.set_cons_succ, i64_w, i32_w]
                                rfl
                              refine pure_ (i := 13) (N := some 80) (v := ?_) (a' := ?_) #[true, true, true, true, true, true, true, true, true, true, true, false, true, true, false, false, false, false, false, false, false, false, false, false, false, false, false, false, false] rfl rfl (any_of HT_.out (by kernel_rfl)) (fun _ _ _ h => h) (Or.inl ⟨by rfl, ?_⟩) ?_ ?_
                              rotate_left
                              · intro w'
                                go_simp
                                with_reducible rfl
                              rotate_left
                              · simp only [Act.put, List.setIfInBounds_toArray, List.set_cons_zero, List.set_cons_succ, i64_w, i32_w]
                                rfl
                              refine pure_ (i := 14) (N := some 81) (v := ?_) (a' := ?_) #[true, true, true, true, true, true, true, true, true, true, true, false, true, true, true, false, false, false, false, false, false, false, false, false, false, false, false, false, false] rfl rfl (any_of HT_.out (by kernel_rfl)) (fun _ _ _ h => h) (Or.inl ⟨by rfl, ?_⟩) ?_ ?_
                              rotate_left
                              · intro w'
                                go_simp
                                with_reducible rfl
                              rotate_left
                              · simp only [Act.put, List.setIfInBounds_toArray, List.set_cons_zero, List.set_cons_succ, i64_w, i32_w]
                                rfl
                              refine pure_ (i := 15) (N := some 82) (v := ?_) (a' := ?_) #[true, true, true, true, true, true, true, true, true, true, true, false, true, true, true, true, false, false, false, false, false, false, false, false, false, false, false, false, false] rfl rfl (any_of HT_.out (by kernel_rfl)) (fun _ _ _ h => h) (Or.inl ⟨by rfl, ?_⟩) ?_ ?_
                              rotate_left
                              · intro w'
                                go_simp
                                with_reducible rfl
                              rotate_left
                              · simp only [Act.put, List.setIfInBounds_toArray, List.set_cons_zero, List.set_cons_succ, i64_w, i32_w]
                                rfl
                              refine take_ (i := 11) (N := some 78) (v := ?_) (a' := ?_) #[true, true, true, true, true, true, true, true, true, true, true, true, true, true, true, true, false, false, false, false, false, false, false, false, false, false, false, false, false] rfl rfl (take_ofW HT_.out HW_.out (by kernel_rfl)) (fun _ _ _ h => h) (Or.inl ⟨by rfl, ?_⟩) hHeld ?_ ?_
                              rotate_left
                              · rintro w' ⟨s0, s1, s2, s3, s4, s5, s6, s7, s8, s9, s10, s11⟩
                                go_simp
                                with_reducible rfl
                              rotate_left
                              · simp only [Act.put, List.setIfInBounds_toArray, List.set_cons_zero, List.set_cons_succ, i64_w, i32_w]
                                rfl
                              refine take_ (i := 16) (N := some 83) (v := ?_) (a' := ?_) #[true, true, true, true, true, true, true, true, true, true, true, true, true, true, true, true, true, false, false, false, false, false, false, false, false, false, false, false, false] rfl rfl (take_ofW HT_.out HW_.out (by kernel_rfl)) (fun _ _ _ h => h) (Or.inl ⟨by rfl, ?_⟩) hHeld ?_ ?_
                              rotate_left
                              · rintro w' ⟨s0, s1, s2, s3, s4, s5, s6, s7, s8, s9, s10, s11⟩
                                go_simp
                                with_reducible rfl
                              rotate_left
                              · simp only [Act.put, List.setIfInBounds_toArray, List.set_cons_zero, List.set_cons_succ, i64_w, i32_w]
                                rfl
                              refine one_ (i := 17) (N := some 84) #[true, true, true, true, true, true, true, true, true, true, true, true, true, true, true, true, true, true, false, false, false, false, false, false, false, false, false, false, false] rfl rfl (one_of HT_.out (by kernel_rfl)) (by decide) (fun K hK => ?_)
                              refine goes_ Try.func35 (by kernel_rfl) rfl #[.slice A285_1 ((rd_T62 t273 x10_2).f1).length c285_1, .slice A287_1 ((rd_T62 t277 x10_2).f1).length c287_1] (by rfl) rfl rfl (by (try simp only [List.map_toArray, List.map_cons, List.map_nil]); first | done | rfl | (simp only [List.length_drop, List.length_take]; rfl)) ?_
                              with_reducible refine (laws_sameInts.calls k2 _ _ ((rd_T62 t273 x10_2).f1) _ _ ((rd_T62 t277 x10_2).f1) true _ ?side1 ?side2 ?side3 ?side4 A28.out).mono ?_
                              (case side1 => repeat (first | exact (by repeat (first | (with_reducible exact HR286_1.out) | (with_reducible refine Kd.C_alloc ?_ _) | (with_reducible refine Kd.C_drewN ?_ _) | (with_reducible refine Kd.C_drew ?_) | exact HR286_1.out)) | (with_reducible refine Kd.C_alloc ?_ _) | (with_reducible refine Kd.C_drewN ?_ _) | (with_reducible refine Kd.C_drew ?_)))
                              (case side2 => exact HC286_1.out)
                              (case side3 => repeat (first | exact (by repeat (first | (with_reducible exact HR287_1.out) | (with_reducible refine Kd.C_alloc ?_ _) | (with_reducible refine Kd.C_drewN ?_ _) | (with_reducible refine Kd.C_drew ?_) | exact HR287_1.out)) | (with_reducible refine Kd.C_alloc ?_ _) | (with_reducible refine Kd.C_drewN ?_ _) | (with_reducible refine Kd.C_drew ?_)))
                              (case side4 => exact HC287_1.out)
                              rintro e w' ⟨rfl, ⟨nd, rfl⟩⟩
                              refine ⟨_, rfl, ?_⟩
                              refine hK.out _ _ ⟨hHeld.1, hHeld.2.1, hHeld.2.2.1, hHeld.2.2.2.1, hHeld.2.2.2.2.1, hHeld.2.2.2.2.2.1, hHeld.2.2.2.2.2.2.1, hHeld.2.2.2.2.2.2.2.1, hHeld.2.2.2.2.2.2.2.2.1, hHeld.2.2.2.2.2.2.2.2.2.1, hHeld.2.2.2.2.2.2.2.2.2.2.1, hHeld.2.2.2.2.2.2.2.2.2.2.2⟩ (fun hHeld => ?_)
                              clear hK K
                              refine norm_ (a' := ?_) ?_ ?_
                              rotate_left
                              · show Act.put _ (some 84) _ = _
                                simp only [Act.put, List.setIfInBounds_toArray, List.set_cons_zero, List.set_cons_succ, i64_w, i32_w]
                                rfl
                              refine pure_ (i := 18) (N := some 85) (v := ?_) (a' := ?_) #[true, true, true, true, true, true, true, true, true, true, true, true, true, true, true, true, true, true, true, false, false, false, false, false, false, false, false, false, false] rfl rfl (any_of HT_.out (by kernel_rfl)) (fun _ _ _ h => h) (Or.inl ⟨by rfl, ?_⟩) ?_ ?_
                              rotate_left
                              · intro w'
                                go_simp
                                with_reducible rfl
                              rotate_left
                              · simp only [Act.put, List.setIfInBounds_toArray, List.set_cons_zero, List.set_cons_succ, i64_w, i32_w]
                                rfl
                              refine pure_ (i := 19) (N := some 86) (v := ?_) (a' := ?_) #[true, true, true, true, true, true, true, true, true, true, true, true, true, true, true, true, true, true, true, true, false, false, false, false, false, false, false, false, false] rfl rfl (any_of HT_.out (by kernel_rfl)) (fun _ _ _ h => h) (Or.inl ⟨by rfl, ?_⟩) ?_ ?_
                              rotate_left
                              · intro w'
                                go_simp
                                with_reducible rfl
                              rotate_left
                              · simp only [Act.put, List.setIfInBounds_toArray, List.set_cons_zero, List.set_cons_succ, i64_w, i32_w]
                                rfl
                              refine pure_ (i := 20) (N := some 87) (v := ?_) (a' := ?_) #[true, true, true, true, true, true, true, true, true, true, true, true, true, true, true, true, true, true, true, true, true, false, false, false, false, false, false, false, false] rfl rfl (any_of HT_.out (by kernel_rfl)) (fun _ _ _ h => h) (Or.inl ⟨by rfl, ?_⟩) ?_ ?_
                              rotate_left
                              · intro w'
                                go_simp
                                with_reducible rfl
                              rotate_left
                              · simp only [Act.put, List.setIfInBounds_toArray, List.set_cons_zero, List.set_cons_succ, i64_w, i32_w]
                                rfl
                              refine pure_ (i := 21) (N := some 88) (v := ?_) (a' := ?_) #[true, true, true, true, true, true, true, true, true, true, true, true, true, true, true, true, true, true, true, true, true, true, false, false, false, false, false, false, false] rfl rfl (any_of HT_.out (by kernel_rfl)) (fun _ _ _ h => h) (Or.inl ⟨by rfl, ?_⟩) ?_ ?_
                              rotate_left
                              · intro w'
                                go_simp
                                with_reducible rfl
                              rotate_left
                              · simp only [Act.put, List.setIfInBounds_toArray, List.set_cons_zero, List.set_cons_succ, i64_w, i32_w]
                                rfl
                              refine pure_ (i := 22) (N := some 89) (v := ?_) (a' := ?_) #[true, true, true, true, true, true, true, true, true, true, true, true, true, true, true, true, true, true, true, true, true, true, true, false, false, false, false, false, false] rfl rfl (any_of HT_.out (by kernel_rfl)) (fun _ _ _ h => h) (Or.inl ⟨by rfl, ?_⟩) ?_ ?_
                              rotate_left
                              · intro w'
                                go_simp
                                with_reducible rfl
                              rotate_left
                              · simp only [Act.put, List.setIfInBounds_toArray, List.set_cons_zero, List.set_cons_succ, i64_w, i32_w]
                                rfl
                              refine pure_ (i := 23) (N := some 90) (v := ?_) (a' := ?_) #[true, true, true, true, true, true, true, true, true, true, true, true, true, true, true, true, true, true, true, true, true, true, true, true, false, false, false, false, false] rfl rfl (any_of HT_.out (by kernel_rfl)) (fun _ _ _ h => h) (Or.inl ⟨by rfl, ?_⟩) ?_ ?_
                              rotate_left
                              · intro w'
                                go_simp
                                with_reducible rfl
                              rotate_left
                              · simp only [Act.put, List.setIfInBounds_toArray, List.set_cons_zero, List.set_cons_succ, i64_w, i32_w]
                                rfl
                              refine pure_ (i := 25) (N := some 92) (v := ?_) (a' := ?_) #[true, true, true, true, true, true, true, true, true, true, true, true, true, true, true, true, true, true, true, true, true, true, true, true, false, true, false, false, false] rfl rfl (any_of HT_.out (by kernel_rfl)) (fun _ _ _ h => h) (Or.inl ⟨by rfl, ?_⟩) ?_ ?_
                              rotate_left
                              · intro w'
                                go_simp
                                with_reducible rfl
                              rotate_left
                              · simp only [Act.put, List.setIfInBounds_toArray, List.set_cons_zero, List.set_cons_succ, i64_w, i32_w]
                                rfl
                              refine take_ (i := 24) (N := some 91) (v := ?_) (a' := ?_) #[true, true, true, true, true, true, true, true, true, true, true, true, true, true, true, true, true, true, true, true, true, true, true, true, true, true, false, false, false] rfl rfl (take_ofW HT_.out HW_.out (by kernel_rfl)) (fun _ _ _ h => h) (Or.inl ⟨by rfl, ?_⟩) hHeld ?_ ?_
                              rotate_left
                              · rintro w' ⟨s0, s1, s2, s3, s4, s5, s6, s7, s8, s9, s10, s11⟩
                                go_simp
                                with_reducible rfl
                              rotate_left
                              · simp only [Act.put, List.setIfInBounds_toArray, List.set_cons_zero, List.set_cons_succ, i64_w, i32_w]
                                rfl
                              refine one_ (i := 26) (N := some 93) #[true, true, true, true, true, true, true, true, true, true, true, true, true, true, true, true, true, true, true, true, true, true, true, true, true, true, true, false, false] rfl rfl (one_of HT_.out (by kernel_rfl)) (by decide) (fun K hK => ?_)
                              refine goes_ Try.func59 (by kernel_rfl) rfl #[.agg #[.int .i64 ((rd_T62 t273 x10_2).f0), .slice A285_1 ((rd_T62 t273 x10_2).f1).length c285_1, .int .i64 ((rd_T62 t273 x10_2).f2)], .int .i64 t270] (by rfl) rfl rfl (by (try simp only [List.map_toArray, List.map_cons, List.map_nil]); first | done | rfl | (simp only [List.length_drop, List.length_take]; rfl)) ?_
                              with_reducible refine (impl_RuleValid.calls k2 ((rd_T62 t273 x10_2).f0) _ _ ((rd_T62 t273 x10_2).f1) ((rd_T62 t273 x10_2).f2) t270 t290 _ ?side1 ?side2 A30.out).mono ?_
                              (case side1 => repeat (first | exact (by repeat (first | (with_reducible exact HR289_1.out) | (with_reducible refine Kd.C_alloc ?_ _) | (with_reducible refine Kd.C_drewN ?_ _) | (with_reducible refine Kd.C_drew ?_) | exact HR289_1.out)) | (with_reducible refine Kd.C_alloc ?_ _) | (with_reducible refine Kd.C_drewN ?_ _) | (with_reducible refine Kd.C_drew ?_)))
                              (case side2 => exact HC289_1.out)
                              rintro e w33 ⟨rfl, hb⟩
                              have HS0_ := (hb.cell (World.block_lt_of_cell? _ _ (hHeld.1))).trans (hHeld.1)
                              have HS1_ := (hb.cell (World.block_lt_of_cell? _ _ (hHeld.2.1))).trans (hHeld.2.1)
                              have HS2_ := (hb.cell (World.block_lt_of_cell? _ _ (hHeld.2.2.1))).trans (hHeld.2.2.1)
                              have HS3_ := (hb.cell (World.block_lt_of_cell? _ _ (hHeld.2.2.2.1))).trans (hHeld.2.2.2.1)
                              have HS4_ := (hb.cell (World.block_lt_of_cell? _ _ (hHeld.2.2.2.2.1))).trans (hHeld.2.2.2.2.1)
                              have HS5_ := (hb.cell (World.block_lt_of_cell? _ _ (hHeld.2.2.2.2.2.1))).trans (hHeld.2.2.2.2.2.1)
                              have HS6_ := (hb.cell (World.block_lt_of_cell? _ _ (hHeld.2.2.2.2.2.2.1))).trans (hHeld.2.2.2.2.2.2.1)
                              have HS7_ := (hb.cell (World.block_lt_of_cell? _ _ (hHeld.2.2.2.2.2.2.2.1))).trans (hHeld.2.2.2.2.2.2.2.1)
                              have HS8_ := (hb.cell (World.block_lt_of_cell? _ _ (hHeld.2.2.2.2.2.2.2.2.1))).trans (hHeld.2.2.2.2.2.2.2.2.1)
                              have HS9_ := (hb.cell (World.block_lt_of_cell? _ _ (hHeld.2.2.2.2.2.2.2.2.2.1))).trans (hHeld.2.2.2.2.2.2.2.2.2.1)
                              have HS10_ := (hb.cell (World.block_lt_of_cell? _ _ (hHeld.2.2.2.2.2.2.2.2.2.2.1))).trans (hHeld.2.2.2.2.2.2.2.2.2.2.1)
                              have HS11_ := (hb.cell (World.block_lt_of_cell? _ _ (hHeld.2.2.2.2.2.2.2.2.2.2.2))).trans (hHeld.2.2.2.2.2.2.2.2.2.2.2)
                              refine ⟨_, rfl, ?_⟩
                              have n0_ := Aside0.mk (Kd.S_below (by (with_reducible repeat (first | apply Kd.S_alloc | apply Kd.S_drewN | apply Kd.S_drew)); exact HO_5.out) hb)
                              have n1_ := Aside0.mk (Kd.S_below (by (with_reducible repeat (first | apply Kd.S_alloc | apply Kd.S_drewN | apply Kd.S_drew)); exact HO_7.out) hb)
                              have n2_ := Aside0.mk (Kd.R_below (by (with_reducible repeat (first | apply Kd.R_alloc | apply Kd.R_drewN | apply Kd.R_drew)); exact HO_9.out) hb)
                              have n3_ := Aside0.mk (Kd.R_below (by (with_reducible repeat (first | apply Kd.R_alloc | apply Kd.R_drewN | apply Kd.R_drew)); exact HL285_1.out) hb)
                              have n4_ := Aside0.mk (Kd.R_below (by (with_reducible repeat (first | apply Kd.R_alloc | apply Kd.R_drewN | apply Kd.R_drew)); exact HL286_1.out) hb)
                              have n5_ := Aside0.mk (Kd.R_below (by (with_reducible repeat (first | apply Kd.R_alloc | apply Kd.R_drewN | apply Kd.R_drew)); exact HL287_1.out) hb)
                              have n6_ := Aside0.mk (Kd.R_below (by (with_reducible repeat (first | apply Kd.R_alloc | apply Kd.R_drewN | apply Kd.R_drew)); exact HL289_1.out) hb)
                              have n7_ := Aside0.mk (Kd.C_below (by repeat (first | (with_reducible exact HR285_1.out) | (with_reducible refine Kd.C_alloc ?_ _) | (with_reducible refine Kd.C_drewN ?_ _) | (with_reducible refine Kd.C_drew ?_) | exact HR285_1.out)) hb)
                              have n8_ := Aside0.mk (Kd.C_below (by repeat (first | (with_reducible exact HR286_1.out) | (with_reducible refine Kd.C_alloc ?_ _) | (with_reducible refine Kd.C_drewN ?_ _) | (with_reducible refine Kd.C_drew ?_) | exact HR286_1.out)) hb)
                              have n9_ := Aside0.mk (Kd.C_below (by repeat (first | (with_reducible exact HR287_1.out) | (with_reducible refine Kd.C_alloc ?_ _) | (with_reducible refine Kd.C_drewN ?_ _) | (with_reducible refine Kd.C_drew ?_) | exact HR287_1.out)) hb)
                              have n10_ := Aside0.mk (Kd.C_below (by repeat (first | (with_reducible exact HR289_1.out) | (with_reducible refine Kd.C_alloc ?_ _) | (with_reducible refine Kd.C_drewN ?_ _) | (with_reducible refine Kd.C_drew ?_) | exact HR289_1.out)) hb)
                              have n11_ := Aside0.mk (below_step (by repeat (first | (with_reducible first | exact HB.out | apply below_alloc | apply pw_below_drewN | apply below_drew1) | exact HB.out)) hb)
                              clear HO_5
                              clear HO_7
                              clear HO_9
                              clear HL285_1
                              clear HL286_1
                              clear HL287_1
                              clear HL289_1
                              clear HR285_1
                              clear HR286_1
                              clear HR287_1
                              clear HR289_1
                              clear HB
                              have HO_5 := n0_
                              have HO_7 := n1_
                              have HO_9 := n2_
                              have HL285_1 := n3_
                              have HL286_1 := n4_
                              have HL287_1 := n5_
                              have HL289_1 := n6_
                              have HR285_1 := n7_
                              have HR286_1 := n8_
                              have HR287_1 := n9_
                              have HR289_1 := n10_
                              have HB := n11_
                              clear n0_ n1_ n2_ n3_ n4_ n5_ n6_ n7_ n8_ n9_ n10_ n11_
                              (try clear hb)
                              (try clear hb2)
                              (try clear hk)
                              (try clear hi)
                              refine hK.out _ _ ⟨HS0_, HS1_, HS2_, HS3_, HS4_, HS5_, HS6_, HS7_, HS8_, HS9_, HS10_, HS11_⟩ (fun hHeld => ?_)
                              clear hK K
                              refine norm_ (a' := ?_) ?_ ?_
                              rotate_left
                              · show Act.put _ (some 93) _ = _
                                simp only [Act.put, List.setIfInBounds_toArray, List.set_cons_zero, List.set_cons_succ, i64_w, i32_w]
                                rfl
                              refine pure_ (i := 27) (N := some 94) (v := ?_) (a' := ?_) #[true, true, true, true, true, true, true, true, true, true, true, true, true, true, true, true, true, true, true, true, true, true, true, true, true, true, true, true, false] rfl rfl (any_of HT_.out (by kernel_rfl)) (fun _ _ _ h => h) (Or.inl ⟨by rfl, ?_⟩) ?_ ?_
                              rotate_left
                              · intro w'
                                go_simp
                                with_reducible rfl
                              rotate_left
                              · simp only [Act.put, List.setIfInBounds_toArray, List.set_cons_zero, List.set_cons_succ, i64_w, i32_w]
                                rfl
                              refine pure_ (i := 28) (N := some 95) (v := ?_) (a' := ?_) #[true, true, true, true, true, true, true, true, true, true, true, true, true, true, true, true, true, true, true, true, true, true, true, true, true, true, true, true, true] rfl rfl (any_of HT_.out (by kernel_rfl)) (fun _ _ _ h => h) (Or.inl ⟨by rfl, ?_⟩) ?_ ?_
                              rotate_left
                              · intro w'
                                go_simp
                                with_reducible rfl
                              rotate_left
                              · simp only [Act.put, List.setIfInBounds_toArray, List.set_cons_zero, List.set_cons_succ, i64_w, i32_w]
                                rfl
                              refine done_ (done_of HT_.out (by kernel_rfl)) ?_
                              try go_wp2
                              go_meet
                              case rel => exact ⟨_, (!t290), (by first | rfl | (simp; done) | (simp [*]; done)), H', ⟨by have := HJ5.out; have := HK2.out; first | omega | exact Nat.le_refl _⟩, ⟨by (with_reducible repeat (first | apply Kd.S_alloc | apply Kd.S_drewN | apply Kd.S_drew)); exact HO_5.out⟩, ⟨by (with_reducible repeat (first | apply Kd.S_alloc | apply Kd.S_drewN | apply Kd.S_drew)); exact HO_7.out⟩, ⟨by (with_reducible repeat (first | apply Kd.R_alloc | apply Kd.R_drewN | apply Kd.R_drew)); exact HO_9.out⟩, ⟨by repeat (first | (with_reducible first | exact HB.out | apply below_alloc | apply pw_below_drewN | apply below_drew1) | exact HB.out)⟩⟩
                            · replace c29 := Bool.eq_false_iff.mpr c29
                              subst c29
                              have H1 : (laws_FnRegionRules.j2 k2 t270 t273 t277 t282 x10_2 true) = some r := by rw [if_neg (show ¬ (false = true) by decide)] at H; exact H
                              clear H
                              have H := H1
                              clear H1
                              have H' := Aside0.mk H
                              clear H
                              try go_wp2
                              have n0_ := Aside0.mk (Kd.S_drew HO_5.out)
                              have n1_ := Aside0.mk (Kd.S_drew HO_7.out)
                              have n2_ := Aside0.mk (Kd.R_drew HO_9.out)
                              have n3_ := Aside0.mk (below_drew1 HB.out)
                              clear HO_5
                              clear HO_7
                              clear HO_9
                              clear HB
                              have HO_5 := n0_
                              have HO_7 := n1_
                              have HO_9 := n2_
                              have HB := n3_
                              clear n0_ n1_ n2_ n3_
                              have p285 : 0 ≤ (x10_2 : Int) := of_decide_eq_true (by first | (with_reducible assumption) | assumption)
                              have q285 : x10_2 < (t273.length : Int) := of_decide_eq_true (by first | (with_reducible assumption) | assumption)
                              obtain ⟨ad285, A285_1, c285_1, e285, hx285_0, hx285_1, hx285_2, hl285_1, hi285_1⟩ := at_T62 (Kd.S_reads' HO_5.out).2.2 x10_2 p285 q285
                              cases e285
                              obtain ⟨ce285, hce285, hMe285, hcc285⟩ := Kd.S_get HO_5.out z62 x10_2 p285 (by first | exact q285 | exact of_decide_eq_true (by first | (with_reducible assumption) | assumption) | (have e_ := (Kd.S_reads' HO_5.out).1; omega))
                              obtain ⟨ve285_1, rfl, ge285_1⟩ := k62_openM hMe285
                              have hv285_1 := hcc285 1 _ rfl
                              rw [add_field _ _ 1 (by omega)] at hv285_1
                              replace hv285_1 := Option.some.inj (hv285_1.symm.trans hx285_1)
                              rw [hv285_1] at ge285_1
                              have HL285_1 := Aside0.mk (show Kd.R (Kd.int .i64) 3 _ _ _ _ ((rd_T62 t273 x10_2).f1) from ge285_1)
                              clear hv285_1 ge285_1
                              clear hcc285 hce285
                              have HR285_1 := Aside0.mk hi285_1
                              have HC285_1 := Aside0.mk hl285_1
                              clear hi285_1 hl285_1
                              replace p285 := eq_true p285
                              replace q285 := eq_true q285
                              have p286 : 0 ≤ (x10_2 : Int) := of_decide_eq_true (by first | (with_reducible assumption) | assumption)
                              have q286 : x10_2 < (t273.length : Int) := of_decide_eq_true (by first | (with_reducible assumption) | assumption)
                              obtain ⟨ad286, A286_1, c286_1, e286, hx286_0, hx286_1, hx286_2, hl286_1, hi286_1⟩ := at_T62 (Kd.S_reads' HO_5.out).2.2 x10_2 p286 q286
                              obtain rfl : ad285 = ad286 := (by injection e286)
                              obtain ⟨ce286, hce286, hMe286, hcc286⟩ := Kd.S_get HO_5.out z62 x10_2 p286 (by first | exact q286 | exact of_decide_eq_true (by first | (with_reducible assumption) | assumption) | (have e_ := (Kd.S_reads' HO_5.out).1; omega))
                              obtain ⟨ve286_1, rfl, ge286_1⟩ := k62_openM hMe286
                              have hv286_1 := hcc286 1 _ rfl
                              rw [add_field _ _ 1 (by omega)] at hv286_1
                              replace hv286_1 := Option.some.inj (hv286_1.symm.trans hx286_1)
                              rw [hv286_1] at ge286_1
                              have HL286_1 := Aside0.mk (show Kd.R (Kd.int .i64) 3 _ _ _ _ ((rd_T62 t273 x10_2).f1) from ge286_1)
                              clear hv286_1 ge286_1
                              clear hcc286 hce286
                              have HR286_1 := Aside0.mk hi286_1
                              have HC286_1 := Aside0.mk hl286_1
                              clear hi286_1 hl286_1
                              replace p286 := eq_true p286
                              replace q286 := eq_true q286
                              have ea_ := Option.some.inj (hx285_1.symm.trans hx286_1)
                              injection ea_ with ea_ en_ ec_
                              subst ea_
                              subst ec_
                              clear en_
                              obtain ⟨Ao35, co35, eo35⟩ := Kd.S_slice HO_7.out
                              (first | subst eo35 | (injection eo35 with f1_ f2_ f3_; have f4_ := f1_.symm; have f5_ := f3_.symm; clear f1_ f2_ f3_; subst f4_; subst f5_))
                              have p287 : 0 ≤ (x10_2 : Int) := of_decide_eq_true (by first | (with_reducible assumption) | assumption)
                              have q287 : x10_2 < (t277.length : Int) := of_decide_eq_true (by first | (with_reducible assumption) | assumption)
                              obtain ⟨ad287, A287_1, c287_1, e287, hx287_0, hx287_1, hx287_2, hl287_1, hi287_1⟩ := at_T62 (Kd.S_reads' HO_7.out).2.2 x10_2 p287 q287
                              cases e287
                              obtain ⟨ce287, hce287, hMe287, hcc287⟩ := Kd.S_get HO_7.out z62 x10_2 p287 (by first | exact q287 | exact of_decide_eq_true (by first | (with_reducible assumption) | assumption) | (have e_ := (Kd.S_reads' HO_7.out).1; omega))
                              obtain ⟨ve287_1, rfl, ge287_1⟩ := k62_openM hMe287
                              have hv287_1 := hcc287 1 _ rfl
                              rw [add_field _ _ 1 (by omega)] at hv287_1
                              replace hv287_1 := Option.some.inj (hv287_1.symm.trans hx287_1)
                              rw [hv287_1] at ge287_1
                              have HL287_1 := Aside0.mk (show Kd.R (Kd.int .i64) 3 _ _ _ _ ((rd_T62 t277 x10_2).f1) from ge287_1)
                              clear hv287_1 ge287_1
                              clear hcc287 hce287
                              have HR287_1 := Aside0.mk hi287_1
                              have HC287_1 := Aside0.mk hl287_1
                              clear hi287_1 hl287_1
                              replace p287 := eq_true p287
                              replace q287 := eq_true q287
                              refine start_ (n := 29) (S := fun w' => w'.cell? (ad285.add ((x10_2).toNat * 3)) = some (.int .i64 ((rd_T62 t273 x10_2).f0)) ∧ w'.cell? ⟨(ad285.add ((x10_2).toNat * 3)).block, (ad285.add ((x10_2).toNat * 3)).off + 1, none⟩ = some (.slice A285_1 ((rd_T62 t273 x10_2).f1).length c285_1) ∧ w'.cell? ⟨(ad285.add ((x10_2).toNat * 3)).block, (ad285.add ((x10_2).toNat * 3)).off + 2, none⟩ = some (.int .i64 ((rd_T62 t273 x10_2).f2)) ∧ w'.cell? (ad285.add ((x10_2).toNat * 3)) = some (.int .i64 ((rd_T62 t273 x10_2).f0)) ∧ w'.cell? ⟨(ad285.add ((x10_2).toNat * 3)).block, (ad285.add ((x10_2).toNat * 3)).off + 1, none⟩ = some (.slice A285_1 ((rd_T62 t273 x10_2).f1).length c285_1) ∧ w'.cell? ⟨(ad285.add ((x10_2).toNat * 3)).block, (ad285.add ((x10_2).toNat * 3)).off + 2, none⟩ = some (.int .i64 ((rd_T62 t273 x10_2).f2)) ∧ w'.cell? (ad287.add ((x10_2).toNat * 3)) = some (.int .i64 ((rd_T62 t277 x10_2).f0)) ∧ w'.cell? ⟨(ad287.add ((x10_2).toNat * 3)).block, (ad287.add ((x10_2).toNat * 3)).off + 1, none⟩ = some (.slice A287_1 ((rd_T62 t277 x10_2).f1).length c287_1) ∧ w'.cell? ⟨(ad287.add ((x10_2).toNat * 3)).block, (ad287.add ((x10_2).toNat * 3)).off + 2, none⟩ = some (.int .i64 ((rd_T62 t277 x10_2).f2))) (ds := []) #[false, false, false, false, false, false, false, false, false, false, false, false, false, false, false, false, false, false, false, false, false, false, false, false, false, false, false, false, false] (by kernel_rfl) rfl rfl ⟨hx285_0, hx285_1, hx285_2, hx286_0, hx286_1, hx286_2, hx287_0, hx287_1, hx287_2⟩ (fun hHeld => ?_); refine with_tabW laws_FnRegionRules.tab16 laws_FnRegionRules.bits16 (fun HT_ HW_ => ?_)
                              generalize wr.drew = w34 at HO_5 HO_7 HO_9 HB HL285_1 HL286_1 HL287_1 HR285_1 HR286_1 HR287_1 hx285_0 hx285_1 hx285_2 hx286_0 hx286_1 hx286_2 hx287_0 hx287_1 hx287_2 hHeld ⊢
                              refine pure_ (i := 0) (N := some 67) (v := ?_) (a' := ?_) #[true, false, false, false, false, false, false, false, false, false, false, false, false, false, false, false, false, false, false, false, false, false, false, false, false, false, false, false, false] rfl rfl (any_of HT_.out (by kernel_rfl)) (fun _ _ _ h => h) (Or.inl ⟨by rfl, ?_⟩) ?_ ?_
                              rotate_left
                              · intro w'
                                go_simp
                                with_reducible rfl
                              rotate_left
                              · simp only [Act.put, List.setIfInBounds_toArray, List.set_cons_zero, List.set_cons_succ, i64_w, i32_w]
                                rfl
                              refine pure_ (i := 1) (N := some 68) (v := ?_) (a' := ?_) #[true, true, false, false, false, false, false, false, false, false, false, false, false, false, false, false, false, false, false, false, false, false, false, false, false, false, false, false, false] rfl rfl (any_of HT_.out (by kernel_rfl)) (fun _ _ _ h => h) (Or.inl ⟨by rfl, ?_⟩) ?_ ?_
                              rotate_left
                              · intro w'
                                go_simp
                                with_reducible rfl
                              rotate_left
                              · simp only [Act.put, List.setIfInBounds_toArray, List.set_cons_zero, List.set_cons_succ, i64_w, i32_w]
                                rfl
                              refine pure_ (i := 2) (N := some 69) (v := ?_) (a' := ?_) #[true, true, true, false, false, false, false, false, false, false, false, false, false, false, false, false, false, false, false, false, false, false, false, false, false, false, false, false, false] rfl rfl (any_of HT_.out (by kernel_rfl)) (fun _ _ _ h => h) (Or.inl ⟨by rfl, ?_⟩) ?_ ?_
                              rotate_left
                              · intro w'
                                go_simp
                                with_reducible rfl
                              rotate_left
                              · simp only [Act.put, List.setIfInBounds_toArray, List.set_cons_zero, List.set_cons_succ, i64_w, i32_w]
                                rfl
                              refine pure_ (i := 3) (N := some 70) (v := ?_) (a' := ?_) #[true, true, true, true, false, false, false, false, false, false, false, false, false, false, false, false, false, false, false, false, false, false, false, false, false, false, false, false, false] rfl rfl (any_of HT_.out (by kernel_rfl)) (fun _ _ _ h => h) (Or.inl ⟨by rfl, ?_⟩) ?_ ?_
                              rotate_left
                              · intro w'
                                go_simp
                                with_reducible rfl
                              rotate_left
                              · simp only [Act.put, List.setIfInBounds_toArray, List.set_cons_zero, List.set_cons_succ, i64_w, i32_w]
                                rfl
                              refine take_ (i := 4) (N := some 71) (v := ?_) (a' := ?_) #[true, true, true, true, true, false, false, false, false, false, false, false, false, false, false, false, false, false, false, false, false, false, false, false, false, false, false, false, false] rfl rfl (take_ofW HT_.out HW_.out (by kernel_rfl)) (fun _ _ _ h => h) (Or.inl ⟨by rfl, ?_⟩) hHeld ?_ ?_
                              rotate_left
                              · rintro w' ⟨s0, s1, s2, s3, s4, s5, s6, s7, s8⟩
                                go_simp
                                with_reducible rfl
                              rotate_left
                              · simp only [Act.put, List.setIfInBounds_toArray, List.set_cons_zero, List.set_cons_succ, i64_w, i32_w]
                                rfl
                              refine pure_ (i := 5) (N := some 72) (v := ?_) (a' := ?_) #[true, true, true, true, true, true, false, false, false, false, false, false, false, false, false, false, false, false, false, false, false, false, false, false, false, false, false, false, false] rfl rfl (any_of HT_.out (by kernel_rfl)) (fun _ _ _ h => h) (Or.inl ⟨by rfl, ?_⟩) ?_ ?_
                              rotate_left
                              · intro w'
                                go_simp
                                with_reducible rfl
                              rotate_left
                              · simp only [Act.put, List.setIfInBounds_toArray, List.set_cons_zero, List.set_cons_succ, i64_w, i32_w]
                                rfl
                              refine pure_ (i := 6) (N := some 73) (v := ?_) (a' := ?_) #[true, true, true, true, true, true, true, false, false, false, false, false, false, false, false, false, false, false, false, false, false, false, false, false, false, false, false, false, false] rfl rfl (any_of HT_.out (by kernel_rfl)) (fun _ _ _ h => h) (Or.inl ⟨by rfl, ?_⟩) ?_ ?_
                              rotate_left
                              · intro w'
                                go_simp
                                with_reducible rfl
                              rotate_left
                              · simp only [Act.put, List.setIfInBounds_toArray, List.set_cons_zero, List.set_cons_succ, i64_w, i32_w]
                                rfl
                              refine pure_ (i := 7) (N := some 74) (v := ?_) (a' := ?_) #[true, true, true, true, true, true, true, true, false, false, false, false, false, false, false, false, false, false, false, false, false, false, false, false, false, false, false, false, false] rfl rfl (any_of HT_.out (by kernel_rfl)) (fun _ _ _ h => h) (Or.inl ⟨by rfl, ?_⟩) ?_ ?_
                              rotate_left
                              · intro w'
                                go_simp
                                with_reducible rfl
                              rotate_left
                              · simp only [Act.put, List.setIfInBounds_toArray, List.set_cons_zero, List.set_cons_succ, i64_w, i32_w]
                                rfl
                              refine pure_ (i := 8) (N := some 75) (v := ?_) (a' := ?_) #[true, true, true, true, true, true, true, true, true, false, false, false, false, false, false, false, false, false, false, false, false, false, false, false, false, false, false, false, false] rfl rfl (any_of HT_.out (by kernel_rfl)) (fun _ _ _ h => h) (Or.inl ⟨by rfl, ?_⟩) ?_ ?_
                              rotate_left
                              · intro w'
                                go_simp
                                with_reducible rfl
                              rotate_left
                              · simp only [Act.put, List.setIfInBounds_toArray, List.set_cons_zero, List.set_cons_succ, i64_w, i32_w]
                                rfl
                              refine pure_ (i := 9) (N := some 76) (v := ?_) (a' := ?_) #[true, true, true, true, true, true, true, true, true, true, false, false, false, false, false, false, false, false, false, false, false, false, false, false, false, false, false, false, false] rfl rfl (any_of HT_.out (by kernel_rfl)) (fun _ _ _ h => h) (Or.inl ⟨by rfl, ?_⟩) ?_ ?_
                              rotate_left
                              · intro w'
                                go_simp
                                with_reducible rfl
                              rotate_left
                              · simp only [Act.put, List.setIfInBounds_toArray, List.set_cons_zero, List.set_cons_succ, i64_w, i32_w]
                                rfl
                              refine pure_ (i := 10) (N := some 77) (v := ?_) (a' := ?_) #[true, true, true, true, true, true, true, true, true, true, true, false, false, false, false, false, false, false, false, false, false, false, false, false, false, false, false, false, false] rfl rfl (any_of HT_.out (by kernel_rfl)) (fun _ _ _ h => h) (Or.inl ⟨by rfl, ?_⟩) ?_ ?_
                              rotate_left
                              · intro w'
                                go_simp
                                with_reducible rfl
                              rotate_left
                              · simp only [Act.put, List.setIfInBounds_toArray, List.set_cons_zero, List.set_cons_succ, i64_w, i32_w]
                                rfl
                              refine pure_ (i := 12) (N := some 79) (v := ?_) (a' := ?_) #[true, true, true, true, true, true, true, true, true, true, true, false, true, false, false, false, false, false, false, false, false, false, false, false, false, false, false, false, false] rfl rfl (any_of HT_.out (by kernel_rfl)) (fun _ _ _ h => h) (Or.inl ⟨by rfl, ?_⟩) ?_ ?_
                              rotate_left
                              · intro w'
                                go_simp
                                with_reducible rfl
                              rotate_left
                              · simp only [Act.put, List.setIfInBounds_toArray, List.set_cons_zero, List.set_cons_succ, i64_w, i32_w]
                                rfl
                              refine pure_ (i := 13) (N := some 80) (v := ?_) (a' := ?_) #[true, true, true, true, true, true, true, true, true, true, true, false, true, true, false, false, false, false, false, false, false, false, false, false, false, false, false, false, false] rfl rfl (any_of HT_.out (by kernel_rfl)) (fun _ _ _ h => h) (Or.inl ⟨by rfl, ?_⟩) ?_ ?_
                              rotate_left
                              · intro w'
                                go_simp
                                with_reducible rfl
                              rotate_left
                              · simp only [Act.put, List.setIfInBounds_toArray, List.set_cons_zero, List.set_cons_succ, i64_w, i32_w]
                                rfl
                              refine pure_ (i := 14) (N := some 81) (v := ?_) (a' := ?_) #[true, true, true, true, true, true, true, true, true, true, true, false, true, true, true, false, false, false, false, false, false, false, false, false, false, false, false, false, false] rfl rfl (any_of HT_.out (by kernel_rfl)) (fun _ _ _ h => h) (Or.inl ⟨by rfl, ?_⟩) ?_ ?_
                              rotate_left
                              · intro w'
                                go_simp
                                with_reducible rfl
                              rotate_left
                              · simp only [Act.put, List.setIfInBounds_toArray, List.set_cons_zero, List.set_cons_succ, i64_w, i32_w]
                                rfl
                              refine pure_ (i := 15) (N := some 82) (v := ?_) (a' := ?_) #[true, true, true, true, true, true, true, true, true, true, true, false, true, true, true, true, false, false, false, false, false, false, false, false, false, false, false, false, false] rfl rfl (any_of HT_.out (by kernel_rfl)) (fun _ _ _ h => h) (Or.inl ⟨by rfl, ?_⟩) ?_ ?_
                              rotate_left
                              · intro w'
                                go_simp
                                with_reducible rfl
                              rotate_left
                              · simp only [Act.put, List.setIfInBounds_toArray, List.set_cons_zero, List.set_cons_succ, i64_w, i32_w]
                                rfl
                              refine take_ (i := 11) (N := some 78) (v := ?_) (a' := ?_) #[true, true, true, true, true, true, true, true, true, true, true, true, true, true, true, true, false, false, false, false, false, false, false, false, false, false, false, false, false] rfl rfl (take_ofW HT_.out HW_.out (by kernel_rfl)) (fun _ _ _ h => h) (Or.inl ⟨by rfl, ?_⟩) hHeld ?_ ?_
                              rotate_left
                              · rintro w' ⟨s0, s1, s2, s3, s4, s5, s6, s7, s8⟩
                                go_simp
                                with_reducible rfl
                              rotate_left
                              · simp only [Act.put, List.setIfInBounds_toArray, List.set_cons_zero, List.set_cons_succ, i64_w, i32_w]
                                rfl
                              refine take_ (i := 16) (N := some 83) (v := ?_) (a' := ?_) #[true, true, true, true, true, true, true, true, true, true, true, true, true, true, true, true, true, false, false, false, false, false, false, false, false, false, false, false, false] rfl rfl (take_ofW HT_.out HW_.out (by kernel_rfl)) (fun _ _ _ h => h) (Or.inl ⟨by rfl, ?_⟩) hHeld ?_ ?_
                              rotate_left
                              · rintro w' ⟨s0, s1, s2, s3, s4, s5, s6, s7, s8⟩
                                go_simp
                                with_reducible rfl
                              rotate_left
                              · simp only [Act.put, List.setIfInBounds_toArray, List.set_cons_zero, List.set_cons_succ, i64_w, i32_w]
                                rfl
                              refine one_ (i := 17) (N := some 84) #[true, true, true, true, true, true, true, true, true, true, true, true, true, true, true, true, true, true, false, false, false, false, false, false, false, false, false, false, false] rfl rfl (one_of HT_.out (by kernel_rfl)) (by decide) (fun K hK => ?_)
                              refine goes_ Try.func35 (by kernel_rfl) rfl #[.slice A285_1 ((rd_T62 t273 x10_2).f1).length c285_1, .slice A287_1 ((rd_T62 t277 x10_2).f1).length c287_1] (by rfl) rfl rfl (by (try simp only [List.map_toArray, List.map_cons, List.map_nil]); first | done | rfl | (simp only [List.length_drop, List.length_take]; rfl)) ?_
                              with_reducible refine (laws_sameInts.calls k2 _ _ ((rd_T62 t273 x10_2).f1) _ _ ((rd_T62 t277 x10_2).f1) false _ ?side1 ?side2 ?side3 ?side4 A28.out).mono ?_
                              (case side1 => repeat (first | exact (by repeat (first | (with_reducible exact HR286_1.out) | (with_reducible refine Kd.C_alloc ?_ _) | (with_reducible refine Kd.C_drewN ?_ _) | (with_reducible refine Kd.C_drew ?_) | exact HR286_1.out)) | (with_reducible refine Kd.C_alloc ?_ _) | (with_reducible refine Kd.C_drewN ?_ _) | (with_reducible refine Kd.C_drew ?_)))
                              (case side2 => exact HC286_1.out)
                              (case side3 => repeat (first | exact (by repeat (first | (with_reducible exact HR287_1.out) | (with_reducible refine Kd.C_alloc ?_ _) | (with_reducible refine Kd.C_drewN ?_ _) | (with_reducible refine Kd.C_drew ?_) | exact HR287_1.out)) | (with_reducible refine Kd.C_alloc ?_ _) | (with_reducible refine Kd.C_drewN ?_ _) | (with_reducible refine Kd.C_drew ?_)))
                              (case side4 => exact HC287_1.out)
                              rintro e w' ⟨rfl, ⟨nd, rfl⟩⟩
                              refine ⟨_, rfl, ?_⟩
                              refine hK.out _ _ ⟨hHeld.1, hHeld.2.1, hHeld.2.2.1, hHeld.2.2.2.1, hHeld.2.2.2.2.1, hHeld.2.2.2.2.2.1, hHeld.2.2.2.2.2.2.1, hHeld.2.2.2.2.2.2.2.1, hHeld.2.2.2.2.2.2.2.2⟩ (fun hHeld => ?_)
                              clear hK K
                              refine norm_ (a' := ?_) ?_ ?_
                              rotate_left
                              · show Act.put _ (some 84) _ = _
                                simp only [Act.put, List.setIfInBounds_toArray, List.set_cons_zero, List.set_cons_succ, i64_w, i32_w]
                                rfl
                              refine pure_ (i := 18) (N := some 85) (v := ?_) (a' := ?_) #[true, true, true, true, true, true, true, true, true, true, true, true, true, true, true, true, true, true, true, false, false, false, false, false, false, false, false, false, false] rfl rfl (any_of HT_.out (by kernel_rfl)) (fun _ _ _ h => h) (Or.inl ⟨by rfl, ?_⟩) ?_ ?_
                              rotate_left
                              · intro w'
                                go_simp
                                with_reducible rfl
                              rotate_left
                              · simp only [Act.put, List.setIfInBounds_toArray, List.set_cons_zero, List.set_cons_succ, i64_w, i32_w]
                                rfl
                              refine pure_ (i := 19) (N := some 86) (v := ?_) (a' := ?_) #[true, true, true, true, true, true, true, true, true, true, true, true, true, true, true, true, true, true, true, true, false, false, false, false, false, false, false, false, false] rfl rfl (any_of HT_.out (by kernel_rfl)) (fun _ _ _ h => h) (Or.inl ⟨by rfl, ?_⟩) ?_ ?_
                              rotate_left
                              · intro w'
                                go_simp
                                with_reducible rfl
                              rotate_left
                              · simp only [Act.put, List.setIfInBounds_toArray, List.set_cons_zero, List.set_cons_succ, i64_w, i32_w]
                                rfl
                              refine pure_ (i := 20) (N := some 87) (v := ?_) (a' := ?_) #[true, true, true, true, true, true, true, true, true, true, true, true, true, true, true, true, true, true, true, true, true, false, false, false, false, false, false, false, false] rfl rfl (any_of HT_.out (by kernel_rfl)) (fun _ _ _ h => h) (Or.inl ⟨by rfl, ?_⟩) ?_ ?_
                              rotate_left
                              · intro w'
                                go_simp
                                with_reducible rfl
                              rotate_left
                              · simp only [Act.put, List.setIfInBounds_toArray, List.set_cons_zero, List.set_cons_succ, i64_w, i32_w]
                                rfl
                              refine pure_ (i := 21) (N := some 88) (v := undef) (a' := ?_) #[true, true, true, true, true, true, true, true, true, true, true, true, true, true, true, true, true, true, true, true, true, true, false, false, false, false, false, false, false] rfl rfl (any_of HT_.out (by kernel_rfl)) (fun _ _ _ h => h) (Or.inr ⟨by rfl, rfl⟩) ?_ ?_
                              rotate_left
                              · simp only [Act.put, List.setIfInBounds_toArray, List.set_cons_zero, List.set_cons_succ, i64_w, i32_w]
                                rfl
                              refine pure_ (i := 22) (N := some 89) (v := undef) (a' := ?_) #[true, true, true, true, true, true, true, true, true, true, true, true, true, true, true, true, true, true, true, true, true, true, true, false, false, false, false, false, false] rfl rfl (any_of HT_.out (by kernel_rfl)) (fun _ _ _ h => h) (Or.inr ⟨by rfl, rfl⟩) ?_ ?_
                              rotate_left
                              · simp only [Act.put, List.setIfInBounds_toArray, List.set_cons_zero, List.set_cons_succ, i64_w, i32_w]
                                rfl
                              refine pure_ (i := 23) (N := some 90) (v := undef) (a' := ?_) #[true, true, true, true, true, true, true, true, true, true, true, true, true, true, true, true, true, true, true, true, true, true, true, true, false, false, false, false, false] rfl rfl (any_of HT_.out (by kernel_rfl)) (fun _ _ _ h => h) (Or.inr ⟨by rfl, rfl⟩) ?_ ?_
                              rotate_left
                              · simp only [Act.put, List.setIfInBounds_toArray, List.set_cons_zero, List.set_cons_succ, i64_w, i32_w]
                                rfl
                              refine pure_ (i := 24) (N := some 91) (v := undef) (a' := ?_) #[true, true, true, true, true, true, true, true, true, true, true, true, true, true, true, true, true, true, true, true, true, true, true, true, true, false, false, false, false] rfl rfl (any_of HT_.out (by kernel_rfl)) (fun _ _ _ h => h) (Or.inr ⟨by rfl, rfl⟩) ?_ ?_
                              rotate_left
                              · simp only [Act.put, List.setIfInBounds_toArray, List.set_cons_zero, List.set_cons_succ, i64_w, i32_w]
                                rfl
                              refine pure_ (i := 25) (N := some 92) (v := undef) (a' := ?_) #[true, true, true, true, true, true, true, true, true, true, true, true, true, true, true, true, true, true, true, true, true, true, true, true, true, true, false, false, false] rfl rfl (any_of HT_.out (by kernel_rfl)) (fun _ _ _ h => h) (Or.inr ⟨by rfl, rfl⟩) ?_ ?_
                              rotate_left
                              · simp only [Act.put, List.setIfInBounds_toArray, List.set_cons_zero, List.set_cons_succ, i64_w, i32_w]
                                rfl
                              refine pure_ (i := 26) (N := some 93) (v := undef) (a' := ?_) #[true, true, true, true, true, true, true, true, true, true, true, true, true, true, true, true, true, true, true, true, true, true, true, true, true, true, true, false, false] rfl rfl (any_of HT_.out (by kernel_rfl)) (fun _ _ _ h => h) (Or.inr ⟨by rfl, rfl⟩) ?_ ?_
                              rotate_left
                              · simp only [Act.put, List.setIfInBounds_toArray, List.set_cons_zero, List.set_cons_succ, i64_w, i32_w]
                                rfl
                              refine pure_ (i := 27) (N := some 94) (v := undef) (a' := ?_) #[true, true, true, true, true, true, true, true, true, true, true, true, true, true, true, true, true, true, true, true, true, true, true, true, true, true, true, true, false] rfl rfl (any_of HT_.out (by kernel_rfl)) (fun _ _ _ h => h) (Or.inr ⟨by rfl, rfl⟩) ?_ ?_
                              rotate_left
                              · simp only [Act.put, List.setIfInBounds_toArray, List.set_cons_zero, List.set_cons_succ, i64_w, i32_w]
                                rfl
                              refine pure_ (i := 28) (N := some 95) (v := ?_) (a' := ?_) #[true, true, true, true, true, true, true, true, true, true, true, true, true, true, true, true, true, true, true, true, true, true, true, true, true, true, true, true, true] rfl rfl (any_of HT_.out (by kernel_rfl)) (fun _ _ _ h => h) (Or.inl ⟨by rfl, ?_⟩) ?_ ?_
                              rotate_left
                              · intro w'
                                go_simp
                                with_reducible rfl
                              rotate_left
                              · simp only [Act.put, List.setIfInBounds_toArray, List.set_cons_zero, List.set_cons_succ, i64_w, i32_w]
                                rfl
                              refine done_ (done_of HT_.out (by kernel_rfl)) ?_
                              try go_wp2
                              go_meet
                              case rel => exact ⟨_, (true), (by first | rfl | (simp; done) | (simp [*]; done)), H', ⟨by have := HJ5.out; have := HK2.out; first | omega | exact Nat.le_refl _⟩, ⟨by (with_reducible repeat (first | apply Kd.S_alloc | apply Kd.S_drewN | apply Kd.S_drew)); exact HO_5.out⟩, ⟨by (with_reducible repeat (first | apply Kd.S_alloc | apply Kd.S_drewN | apply Kd.S_drew)); exact HO_7.out⟩, ⟨by (with_reducible repeat (first | apply Kd.R_alloc | apply Kd.R_drewN | apply Kd.R_drew)); exact HO_9.out⟩, ⟨by repeat (first | (with_reducible first | exact HB.out | apply below_alloc | apply pw_below_drewN | apply below_drew1) | exact HB.out)⟩⟩
                          · rw [if_neg c27] at H
                            exact absurd H (by simp)
                        · rw [if_neg c26] at H
                          have c26b0 : (((rd_T62 t273 x10_2).f0) == 1) = false := beq_eq_false_iff_ne.mpr c26
                          have c26b1 : (((rd_T62 t273 x10_2).f0) != 1) = true := bne_iff_ne.mpr c26
                          have H' := Aside0.mk H
                          clear H
                          try go_wp2
                          have n0_ := Aside0.mk (Kd.S_drew HO_5.out)
                          have n1_ := Aside0.mk (Kd.S_drew HO_7.out)
                          have n2_ := Aside0.mk (Kd.R_drew HO_9.out)
                          have n3_ := Aside0.mk (below_drew1 HB.out)
                          clear HO_5
                          clear HO_7
                          clear HO_9
                          clear HB
                          have HO_5 := n0_
                          have HO_7 := n1_
                          have HO_9 := n2_
                          have HB := n3_
                          clear n0_ n1_ n2_ n3_
                          have p285 : 0 ≤ (x10_2 : Int) := of_decide_eq_true (by first | (with_reducible assumption) | assumption)
                          have q285 : x10_2 < (t273.length : Int) := of_decide_eq_true (by first | (with_reducible assumption) | assumption)
                          obtain ⟨ad285, A285_1, c285_1, e285, hx285_0, hx285_1, hx285_2, hl285_1, hi285_1⟩ := at_T62 (Kd.S_reads' HO_5.out).2.2 x10_2 p285 q285
                          cases e285
                          obtain ⟨ce285, hce285, hMe285, hcc285⟩ := Kd.S_get HO_5.out z62 x10_2 p285 (by first | exact q285 | exact of_decide_eq_true (by first | (with_reducible assumption) | assumption) | (have e_ := (Kd.S_reads' HO_5.out).1; omega))
                          obtain ⟨ve285_1, rfl, ge285_1⟩ := k62_openM hMe285
                          have hv285_1 := hcc285 1 _ rfl
                          rw [add_field _ _ 1 (by omega)] at hv285_1
                          replace hv285_1 := Option.some.inj (hv285_1.symm.trans hx285_1)
                          rw [hv285_1] at ge285_1
                          have HL285_1 := Aside0.mk (show Kd.R (Kd.int .i64) 3 _ _ _ _ ((rd_T62 t273 x10_2).f1) from ge285_1)
                          clear hv285_1 ge285_1
                          clear hcc285 hce285
                          have HR285_1 := Aside0.mk hi285_1
                          have HC285_1 := Aside0.mk hl285_1
                          clear hi285_1 hl285_1
                          replace p285 := eq_true p285
                          replace q285 := eq_true q285
                          refine start_ (n := 29) (S := fun w' => w'.cell? (ad285.add ((x10_2).toNat * 3)) = some (.int .i64 ((rd_T62 t273 x10_2).f0)) ∧ w'.cell? ⟨(ad285.add ((x10_2).toNat * 3)).block, (ad285.add ((x10_2).toNat * 3)).off + 1, none⟩ = some (.slice A285_1 ((rd_T62 t273 x10_2).f1).length c285_1) ∧ w'.cell? ⟨(ad285.add ((x10_2).toNat * 3)).block, (ad285.add ((x10_2).toNat * 3)).off + 2, none⟩ = some (.int .i64 ((rd_T62 t273 x10_2).f2))) (ds := []) #[false, false, false, false, false, false, false, false, false, false, false, false, false, false, false, false, false, false, false, false, false, false, false, false, false, false, false, false, false] (by kernel_rfl) rfl rfl ⟨hx285_0, hx285_1, hx285_2⟩ (fun hHeld => ?_); refine with_tabW laws_FnRegionRules.tab16 laws_FnRegionRules.bits16 (fun HT_ HW_ => ?_)
                          generalize wr.drew = w36 at HO_5 HO_7 HO_9 HB HL285_1 HR285_1 hx285_0 hx285_1 hx285_2 hHeld ⊢
                          refine pure_ (i := 0) (N := some 67) (v := ?_) (a' := ?_) #[true, false, false, false, false, false, false, false, false, false, false, false, false, false, false, false, false, false, false, false, false, false, false, false, false, false, false, false, false] rfl rfl (any_of HT_.out (by kernel_rfl)) (fun _ _ _ h => h) (Or.inl ⟨by rfl, ?_⟩) ?_ ?_
                          rotate_left
                          · intro w'
                            go_simp
                            with_reducible rfl
                          rotate_left
                          · simp only [Act.put, List.setIfInBounds_toArray, List.set_cons_zero, List.set_cons_succ, i64_w, i32_w]
                            rfl
                          refine pure_ (i := 1) (N := some 68) (v := ?_) (a' := ?_) #[true, true, false, false, false, false, false, false, false, false, false, false, false, false, false, false, false, false, false, false, false, false, false, false, false, false, false, false, false] rfl rfl (any_of HT_.out (by kernel_rfl)) (fun _ _ _ h => h) (Or.inl ⟨by rfl, ?_⟩) ?_ ?_
                          rotate_left
                          · intro w'
                            go_simp
                            with_reducible rfl
                          rotate_left
                          · simp only [Act.put, List.setIfInBounds_toArray, List.set_cons_zero, List.set_cons_succ, i64_w, i32_w]
                            rfl
                          refine pure_ (i := 2) (N := some 69) (v := ?_) (a' := ?_) #[true, true, true, false, false, false, false, false, false, false, false, false, false, false, false, false, false, false, false, false, false, false, false, false, false, false, false, false, false] rfl rfl (any_of HT_.out (by kernel_rfl)) (fun _ _ _ h => h) (Or.inl ⟨by rfl, ?_⟩) ?_ ?_
                          rotate_left
                          · intro w'
                            go_simp
                            with_reducible rfl
                          rotate_left
                          · simp only [Act.put, List.setIfInBounds_toArray, List.set_cons_zero, List.set_cons_succ, i64_w, i32_w]
                            rfl
                          refine pure_ (i := 3) (N := some 70) (v := ?_) (a' := ?_) #[true, true, true, true, false, false, false, false, false, false, false, false, false, false, false, false, false, false, false, false, false, false, false, false, false, false, false, false, false] rfl rfl (any_of HT_.out (by kernel_rfl)) (fun _ _ _ h => h) (Or.inl ⟨by rfl, ?_⟩) ?_ ?_
                          rotate_left
                          · intro w'
                            go_simp
                            with_reducible rfl
                          rotate_left
                          · simp only [Act.put, List.setIfInBounds_toArray, List.set_cons_zero, List.set_cons_succ, i64_w, i32_w]
                            rfl
                          refine take_ (i := 4) (N := some 71) (v := ?_) (a' := ?_) #[true, true, true, true, true, false, false, false, false, false, false, false, false, false, false, false, false, false, false, false, false, false, false, false, false, false, false, false, false] rfl rfl (take_ofW HT_.out HW_.out (by kernel_rfl)) (fun _ _ _ h => h) (Or.inl ⟨by rfl, ?_⟩) hHeld ?_ ?_
                          rotate_left
                          · rintro w' ⟨s0, s1, s2⟩
                            go_simp
                            with_reducible rfl
                          rotate_left
                          · simp only [Act.put, List.setIfInBounds_toArray, List.set_cons_zero, List.set_cons_succ, i64_w, i32_w]
                            rfl
                          refine pure_ (i := 5) (N := some 72) (v := ?_) (a' := ?_) #[true, true, true, true, true, true, false, false, false, false, false, false, false, false, false, false, false, false, false, false, false, false, false, false, false, false, false, false, false] rfl rfl (any_of HT_.out (by kernel_rfl)) (fun _ _ _ h => h) (Or.inl ⟨by rfl, ?_⟩) ?_ ?_
                          rotate_left
                          · intro w'
                            go_simp
                            with_reducible rfl
                          rotate_left
                          · simp only [Act.put, List.setIfInBounds_toArray, List.set_cons_zero, List.set_cons_succ, i64_w, i32_w]
                            rfl
                          refine pure_ (i := 6) (N := some 73) (v := ?_) (a' := ?_) #[true, true, true, true, true, true, true, false, false, false, false, false, false, false, false, false, false, false, false, false, false, false, false, false, false, false, false, false, false] rfl rfl (any_of HT_.out (by kernel_rfl)) (fun _ _ _ h => h) (Or.inl ⟨by rfl, ?_⟩) ?_ ?_
                          rotate_left
                          · intro w'
                            go_simp
                            with_reducible rfl
                          rotate_left
                          · simp only [Act.put, List.setIfInBounds_toArray, List.set_cons_zero, List.set_cons_succ, i64_w, i32_w]
                            rfl
                          refine pure_ (i := 7) (N := some 74) (v := undef) (a' := ?_) #[true, true, true, true, true, true, true, true, false, false, false, false, false, false, false, false, false, false, false, false, false, false, false, false, false, false, false, false, false] rfl rfl (any_of HT_.out (by kernel_rfl)) (fun _ _ _ h => h) (Or.inr ⟨by rfl, rfl⟩) ?_ ?_
                          rotate_left
                          · simp only [Act.put, List.setIfInBounds_toArray, List.set_cons_zero, List.set_cons_succ, i64_w, i32_w]
                            rfl
                          refine pure_ (i := 8) (N := some 75) (v := undef) (a' := ?_) #[true, true, true, true, true, true, true, true, true, false, false, false, false, false, false, false, false, false, false, false, false, false, false, false, false, false, false, false, false] rfl rfl (any_of HT_.out (by kernel_rfl)) (fun _ _ _ h => h) (Or.inr ⟨by rfl, rfl⟩) ?_ ?_
                          rotate_left
                          · simp only [Act.put, List.setIfInBounds_toArray, List.set_cons_zero, List.set_cons_succ, i64_w, i32_w]
                            rfl
                          refine pure_ (i := 9) (N := some 76) (v := undef) (a' := ?_) #[true, true, true, true, true, true, true, true, true, true, false, false, false, false, false, false, false, false, false, false, false, false, false, false, false, false, false, false, false] rfl rfl (any_of HT_.out (by kernel_rfl)) (fun _ _ _ h => h) (Or.inr ⟨by rfl, rfl⟩) ?_ ?_
                          rotate_left
                          · simp only [Act.put, List.setIfInBounds_toArray, List.set_cons_zero, List.set_cons_succ, i64_w, i32_w]
                            rfl
                          refine pure_ (i := 10) (N := some 77) (v := undef) (a' := ?_) #[true, true, true, true, true, true, true, true, true, true, true, false, false, false, false, false, false, false, false, false, false, false, false, false, false, false, false, false, false] rfl rfl (any_of HT_.out (by kernel_rfl)) (fun _ _ _ h => h) (Or.inr ⟨by rfl, rfl⟩) ?_ ?_
                          rotate_left
                          · simp only [Act.put, List.setIfInBounds_toArray, List.set_cons_zero, List.set_cons_succ, i64_w, i32_w]
                            rfl
                          refine pure_ (i := 11) (N := some 78) (v := undef) (a' := ?_) #[true, true, true, true, true, true, true, true, true, true, true, true, false, false, false, false, false, false, false, false, false, false, false, false, false, false, false, false, false] rfl rfl (any_of HT_.out (by kernel_rfl)) (fun _ _ _ h => h) (Or.inr ⟨by rfl, rfl⟩) ?_ ?_
                          rotate_left
                          · simp only [Act.put, List.setIfInBounds_toArray, List.set_cons_zero, List.set_cons_succ, i64_w, i32_w]
                            rfl
                          refine pure_ (i := 12) (N := some 79) (v := undef) (a' := ?_) #[true, true, true, true, true, true, true, true, true, true, true, true, true, false, false, false, false, false, false, false, false, false, false, false, false, false, false, false, false] rfl rfl (any_of HT_.out (by kernel_rfl)) (fun _ _ _ h => h) (Or.inr ⟨by rfl, rfl⟩) ?_ ?_
                          rotate_left
                          · simp only [Act.put, List.setIfInBounds_toArray, List.set_cons_zero, List.set_cons_succ, i64_w, i32_w]
                            rfl
                          refine pure_ (i := 13) (N := some 80) (v := undef) (a' := ?_) #[true, true, true, true, true, true, true, true, true, true, true, true, true, true, false, false, false, false, false, false, false, false, false, false, false, false, false, false, false] rfl rfl (any_of HT_.out (by kernel_rfl)) (fun _ _ _ h => h) (Or.inr ⟨by rfl, rfl⟩) ?_ ?_
                          rotate_left
                          · simp only [Act.put, List.setIfInBounds_toArray, List.set_cons_zero, List.set_cons_succ, i64_w, i32_w]
                            rfl
                          refine pure_ (i := 14) (N := some 81) (v := undef) (a' := ?_) #[true, true, true, true, true, true, true, true, true, true, true, true, true, true, true, false, false, false, false, false, false, false, false, false, false, false, false, false, false] rfl rfl (any_of HT_.out (by kernel_rfl)) (fun _ _ _ h => h) (Or.inr ⟨by rfl, rfl⟩) ?_ ?_
                          rotate_left
                          · simp only [Act.put, List.setIfInBounds_toArray, List.set_cons_zero, List.set_cons_succ, i64_w, i32_w]
                            rfl
                          refine pure_ (i := 15) (N := some 82) (v := undef) (a' := ?_) #[true, true, true, true, true, true, true, true, true, true, true, true, true, true, true, true, false, false, false, false, false, false, false, false, false, false, false, false, false] rfl rfl (any_of HT_.out (by kernel_rfl)) (fun _ _ _ h => h) (Or.inr ⟨by rfl, rfl⟩) ?_ ?_
                          rotate_left
                          · simp only [Act.put, List.setIfInBounds_toArray, List.set_cons_zero, List.set_cons_succ, i64_w, i32_w]
                            rfl
                          refine pure_ (i := 16) (N := some 83) (v := undef) (a' := ?_) #[true, true, true, true, true, true, true, true, true, true, true, true, true, true, true, true, true, false, false, false, false, false, false, false, false, false, false, false, false] rfl rfl (any_of HT_.out (by kernel_rfl)) (fun _ _ _ h => h) (Or.inr ⟨by rfl, rfl⟩) ?_ ?_
                          rotate_left
                          · simp only [Act.put, List.setIfInBounds_toArray, List.set_cons_zero, List.set_cons_succ, i64_w, i32_w]
                            rfl
                          refine pure_ (i := 17) (N := some 84) (v := undef) (a' := ?_) #[true, true, true, true, true, true, true, true, true, true, true, true, true, true, true, true, true, true, false, false, false, false, false, false, false, false, false, false, false] rfl rfl (any_of HT_.out (by kernel_rfl)) (fun _ _ _ h => h) (Or.inr ⟨by rfl, rfl⟩) ?_ ?_
                          rotate_left
                          · simp only [Act.put, List.setIfInBounds_toArray, List.set_cons_zero, List.set_cons_succ, i64_w, i32_w]
                            rfl
                          refine pure_ (i := 18) (N := some 85) (v := undef) (a' := ?_) #[true, true, true, true, true, true, true, true, true, true, true, true, true, true, true, true, true, true, true, false, false, false, false, false, false, false, false, false, false] rfl rfl (any_of HT_.out (by kernel_rfl)) (fun _ _ _ h => h) (Or.inr ⟨by rfl, rfl⟩) ?_ ?_
                          rotate_left
                          · simp only [Act.put, List.setIfInBounds_toArray, List.set_cons_zero, List.set_cons_succ, i64_w, i32_w]
                            rfl
                          refine pure_ (i := 19) (N := some 86) (v := ?_) (a' := ?_) #[true, true, true, true, true, true, true, true, true, true, true, true, true, true, true, true, true, true, true, true, false, false, false, false, false, false, false, false, false] rfl rfl (any_of HT_.out (by kernel_rfl)) (fun _ _ _ h => h) (Or.inl ⟨by rfl, ?_⟩) ?_ ?_
                          rotate_left
                          · intro w'
                            go_simp
                            with_reducible rfl
                          rotate_left
                          · simp only [Act.put, List.setIfInBounds_toArray, List.set_cons_zero, List.set_cons_succ, i64_w, i32_w]
                            rfl
                          refine pure_ (i := 20) (N := some 87) (v := ?_) (a' := ?_) #[true, true, true, true, true, true, true, true, true, true, true, true, true, true, true, true, true, true, true, true, true, false, false, false, false, false, false, false, false] rfl rfl (any_of HT_.out (by kernel_rfl)) (fun _ _ _ h => h) (Or.inl ⟨by rfl, ?_⟩) ?_ ?_
                          rotate_left
                          · intro w'
                            go_simp
                            with_reducible rfl
                          rotate_left
                          · simp only [Act.put, List.setIfInBounds_toArray, List.set_cons_zero, List.set_cons_succ, i64_w, i32_w]
                            rfl
                          refine pure_ (i := 21) (N := some 88) (v := undef) (a' := ?_) #[true, true, true, true, true, true, true, true, true, true, true, true, true, true, true, true, true, true, true, true, true, true, false, false, false, false, false, false, false] rfl rfl (any_of HT_.out (by kernel_rfl)) (fun _ _ _ h => h) (Or.inr ⟨by rfl, rfl⟩) ?_ ?_
                          rotate_left
                          · simp only [Act.put, List.setIfInBounds_toArray, List.set_cons_zero, List.set_cons_succ, i64_w, i32_w]
                            rfl
                          refine pure_ (i := 22) (N := some 89) (v := undef) (a' := ?_) #[true, true, true, true, true, true, true, true, true, true, true, true, true, true, true, true, true, true, true, true, true, true, true, false, false, false, false, false, false] rfl rfl (any_of HT_.out (by kernel_rfl)) (fun _ _ _ h => h) (Or.inr ⟨by rfl, rfl⟩) ?_ ?_
                          rotate_left
                          · simp only [Act.put, List.setIfInBounds_toArray, List.set_cons_zero, List.set_cons_succ, i64_w, i32_w]
                            rfl
                          refine pure_ (i := 23) (N := some 90) (v := undef) (a' := ?_) #[true, true, true, true, true, true, true, true, true, true, true, true, true, true, true, true, true, true, true, true, true, true, true, true, false, false, false, false, false] rfl rfl (any_of HT_.out (by kernel_rfl)) (fun _ _ _ h => h) (Or.inr ⟨by rfl, rfl⟩) ?_ ?_
                          rotate_left
                          · simp only [Act.put, List.setIfInBounds_toArray, List.set_cons_zero, List.set_cons_succ, i64_w, i32_w]
                            rfl
                          refine pure_ (i := 24) (N := some 91) (v := undef) (a' := ?_) #[true, true, true, true, true, true, true, true, true, true, true, true, true, true, true, true, true, true, true, true, true, true, true, true, true, false, false, false, false] rfl rfl (any_of HT_.out (by kernel_rfl)) (fun _ _ _ h => h) (Or.inr ⟨by rfl, rfl⟩) ?_ ?_
                          rotate_left
                          · simp only [Act.put, List.setIfInBounds_toArray, List.set_cons_zero, List.set_cons_succ, i64_w, i32_w]
                            rfl
                          refine pure_ (i := 25) (N := some 92) (v := undef) (a' := ?_) #[true, true, true, true, true, true, true, true, true, true, true, true, true, true, true, true, true, true, true, true, true, true, true, true, true, true, false, false, false] rfl rfl (any_of HT_.out (by kernel_rfl)) (fun _ _ _ h => h) (Or.inr ⟨by rfl, rfl⟩) ?_ ?_
                          rotate_left
                          · simp only [Act.put, List.setIfInBounds_toArray, List.set_cons_zero, List.set_cons_succ, i64_w, i32_w]
                            rfl
                          refine pure_ (i := 26) (N := some 93) (v := undef) (a' := ?_) #[true, true, true, true, true, true, true, true, true, true, true, true, true, true, true, true, true, true, true, true, true, true, true, true, true, true, true, false, false] rfl rfl (any_of HT_.out (by kernel_rfl)) (fun _ _ _ h => h) (Or.inr ⟨by rfl, rfl⟩) ?_ ?_
                          rotate_left
                          · simp only [Act.put, List.setIfInBounds_toArray, List.set_cons_zero, List.set_cons_succ, i64_w, i32_w]
                            rfl
                          refine pure_ (i := 27) (N := some 94) (v := undef) (a' := ?_) #[true, true, true, true, true, true, true, true, true, true, true, true, true, true, true, true, true, true, true, true, true, true, true, true, true, true, true, true, false] rfl rfl (any_of HT_.out (by kernel_rfl)) (fun _ _ _ h => h) (Or.inr ⟨by rfl, rfl⟩) ?_ ?_
                          rotate_left
                          · simp only [Act.put, List.setIfInBounds_toArray, List.set_cons_zero, List.set_cons_succ, i64_w, i32_w]
                            rfl
                          refine pure_ (i := 28) (N := some 95) (v := ?_) (a' := ?_) #[true, true, true, true, true, true, true, true, true, true, true, true, true, true, true, true, true, true, true, true, true, true, true, true, true, true, true, true, true] rfl rfl (any_of HT_.out (by kernel_rfl)) (fun _ _ _ h => h) (Or.inl ⟨by rfl, ?_⟩) ?_ ?_
                          rotate_left
                          · intro w'
                            go_simp
                            with_reducible rfl
                          rotate_left
                          · simp only [Act.put, List.setIfInBounds_toArray, List.set_cons_zero, List.set_cons_succ, i64_w, i32_w]
                            rfl
                          refine done_ (done_of HT_.out (by kernel_rfl)) ?_
                          try go_wp2
                          go_meet
                          case rel => exact ⟨_, (true), (by first | rfl | (simp; done) | (simp [*]; done)), H', ⟨by have := HJ5.out; have := HK2.out; first | omega | exact Nat.le_refl _⟩, ⟨by (with_reducible repeat (first | apply Kd.S_alloc | apply Kd.S_drewN | apply Kd.S_drew)); exact HO_5.out⟩, ⟨by (with_reducible repeat (first | apply Kd.S_alloc | apply Kd.S_drewN | apply Kd.S_drew)); exact HO_7.out⟩, ⟨by (with_reducible repeat (first | apply Kd.R_alloc | apply Kd.R_drewN | apply Kd.R_drew)); exact HO_9.out⟩, ⟨by repeat (first | (with_reducible first | exact HB.out | apply below_alloc | apply pw_below_drewN | apply below_drew1) | exact HB.out)⟩⟩
                      · rw [if_neg c25] at H
                        exact absurd H (by simp)
                    case rest =>
                      clear HC23
                      try clear c2
                      try clear p2
                      try clear q2
                      try clear hx2
                      try clear c3
                      try clear c5
                      try clear c25
                      try clear c26
                      try clear c26b0
                      try clear c26b1
                      try clear c27
                      try clear c28
                      try clear p28
                      try clear q28
                      try clear hx28
                      try clear c29
                      try clear c35
                      try clear hx285_0
                      try clear hx285_1
                      try clear hx285_2
                      try clear hx286_0
                      try clear hx286_1
                      try clear hx286_2
                      try clear hx287_0
                      try clear hx287_1
                      try clear hx287_2
                      try clear p285
                      try clear p286
                      try clear p287
                      try clear q285
                      try clear q286
                      try clear q287
                      obtain ⟨kq, x95_22, rfl, HA, HJ22, HO_5, HO_7, HO_9, HB⟩ := hcut
                      cases kq with
                      | zero => exact absurd HA.out (by simp [laws_FnRegionRules.j2])
                      | succ kj22 =>
                        have H := HA.out
                        clear HA
                        simp only [laws_FnRegionRules.j2] at H
                        by_cases c37 : x95_22 = true
                        · subst c37
                          have H1 : (some false) = some r := by rw [if_pos rfl] at H; exact H
                          clear H
                          have H := H1
                          clear H1
                          obtain rfl := Option.some.inj H
                          go_wp2
                          go_ret
                          exact ⟨by first | rfl | (simp [errW_none, errW_some] <;> rfl) | (simp [*, errW_none, errW_some] <;> rfl), by repeat (first | (with_reducible first | exact HB.out | apply below_alloc | apply pw_below_drewN | apply below_drew1) | exact HB.out)⟩
                        · replace c37 := Bool.eq_false_iff.mpr c37
                          subst c37
                          have H1 : (laws_FnRegionRules.l1 kj22 t270 t273 t277 t282 x10_2 0 false 0) = some r := by rw [if_neg (show ¬ (false = true) by decide)] at H; exact H
                          clear H
                          have H := H1
                          clear H1
                          have H' := Aside0.mk H
                          clear H
                          go_wp2
                          go_loopg [11, 12, 13] kj22 (fun kq v11 v12 v13 w' => ∃ (x11_4 : Int) (x12_4 : Bool) (x13_4 : Int), v11 = .int .i64 x11_4 ∧ v12 = .bool x12_4 ∧ v13 = .int .i64 x13_4 ∧ Aside0 (laws_FnRegionRules.l1 kq t270 t273 t277 t282 x10_2 x11_4 x12_4 x13_4 = some r) ∧ Aside0 (kq ≤ kj22) ∧ Aside0 (Kd.S k62 62 w' w.heap.size (fun k_ => some k_ ≠ (v279 : Value).ownBlock ∧ some k_ ≠ ((.slice Ao21 t282.length co21) : Value).ownBlock) (.slice Ao24 t273.length co24) t273) ∧ Aside0 (Kd.S k62 62 w' w.heap.size (fun k_ => some k_ ≠ ((.slice Ao24 t273.length co24) : Value).ownBlock ∧ some k_ ≠ ((.slice Ao21 t282.length co21) : Value).ownBlock) v279 t277) ∧ Aside0 (Kd.R (Kd.int .i64) 3 w' w.heap.size (fun _ => True) (.slice Ao21 t282.length co21) t282) ∧ Aside0 (Below w.heap.size w w'))
                          case atStart => exact ⟨(0), (false), (0), (by first | rfl | (simp; done) | (simp [*]; done)), (by first | rfl | (simp; done) | (simp [*]; done)), (by first | rfl | (simp; done) | (simp [*]; done)), H', ⟨Nat.le_refl _⟩, ⟨by (with_reducible repeat (first | apply Kd.S_alloc | apply Kd.S_drewN | apply Kd.S_drew)); exact HO_5.out⟩, ⟨by (with_reducible repeat (first | apply Kd.S_alloc | apply Kd.S_drewN | apply Kd.S_drew)); exact HO_7.out⟩, ⟨by (with_reducible repeat (first | apply Kd.R_alloc | apply Kd.R_drewN | apply Kd.R_drew)); exact HO_9.out⟩, ⟨by repeat (first | (with_reducible first | exact HB.out | apply below_alloc | apply pw_below_drewN | apply below_drew1) | exact HB.out)⟩⟩
                          case round =>
                            clear H'
                            try clear c2
                            try clear p2
                            try clear q2
                            try clear hx2
                            try clear c3
                            try clear c5
                            try clear c25
                            try clear c26
                            try clear c26b0
                            try clear c26b1
                            try clear c27
                            try clear c28
                            try clear p28
                            try clear q28
                            try clear hx28
                            try clear c29
                            try clear c35
                            try clear c37
                            try clear hx285_0
                            try clear hx285_1
                            try clear hx285_2
                            try clear hx286_0
                            try clear hx286_1
                            try clear hx286_2
                            try clear hx287_0
                            try clear hx287_1
                            try clear hx287_2
                            try clear p2
                            try clear p28
                            try clear p285
                            try clear p286
                            try clear p287
                            try clear q2
                            try clear q28
                            try clear q285
                            try clear q286
                            try clear q287
                            obtain ⟨x11_4, x12_4, x13_4, rfl, rfl, rfl, HA, HK4, HO_5, HO_7, HO_9, HB⟩ := hrel
                            cases gk with
                            | zero => exact absurd HA.out (by simp [laws_FnRegionRules.l1])
                            | succ k4 =>
                              have H := HA.out
                              clear HA
                              simp only [laws_FnRegionRules.l1] at H
                              by_cases c38 : 0 ≤ x10_2
                              · rw [if_pos c38] at H
                                have c38b0 : decide (0 ≤ x10_2) = true := decide_eq_true c38
                                clear c38
                                by_cases c39 : x10_2 < (t273.length : Int)
                                · rw [if_pos c39] at H
                                  have c39b0 : decide (x10_2 < (t273.length : Int)) = true := decide_eq_true c39
                                  clear c39
                                  by_cases c40 : x13_4 < (((rd_T62 t273 x10_2).f1).length : Int)
                                  · rw [if_pos c40] at H
                                    have c40b0 : decide (x13_4 < (((rd_T62 t273 x10_2).f1).length : Int)) = true := decide_eq_true c40
                                    clear c40
                                    by_cases c41 : 0 ≤ x13_4
                                    · rw [if_pos c41] at H
                                      have c41b0 : decide (0 ≤ x13_4) = true := decide_eq_true c41
                                      clear c41
                                      by_cases c42 : 0 ≤ (rd ((rd_T62 t273 x10_2).f1) x13_4)
                                      · rw [if_pos c42] at H
                                        have c42b0 : decide (0 ≤ (rd ((rd_T62 t273 x10_2).f1) x13_4)) = true := decide_eq_true c42
                                        clear c42
                                        by_cases c43 : (rd ((rd_T62 t273 x10_2).f1) x13_4) < (t282.length : Int)
                                        · rw [if_pos c43] at H
                                          have c43b0 : decide ((rd ((rd_T62 t273 x10_2).f1) x13_4) < (t282.length : Int)) = true := decide_eq_true c43
                                          clear c43
                                          by_cases c44 : x12_4 = true
                                          · subst c44
                                            have H1 : (if 0 ≤ (rd t282 (rd ((rd_T62 t273 x10_2).f1) x13_4)) then (laws_FnRegionRules.l1 k4 t270 t273 t277 t282 x10_2 (Go.bits .or .i64 x11_4 (shl .i64 1 (rd t282 (rd ((rd_T62 t273 x10_2).f1) x13_4)))) true (wrap64 (x13_4 + 1))) else (none)) = some r := by rw [if_pos rfl] at H; exact H
                                            clear H
                                            have H := H1
                                            clear H1
                                            by_cases c45 : 0 ≤ (rd t282 (rd ((rd_T62 t273 x10_2).f1) x13_4))
                                            · rw [if_pos c45] at H
                                              have c45b0 := eq_true c45
                                              have c45b1 : decide (0 ≤ (rd t282 (rd ((rd_T62 t273 x10_2).f1) x13_4))) = true := decide_eq_true c45
                                              clear c45
                                              obtain ⟨ji46, hji46⟩ : ∃ j_ : Int, (shl .i64 1 (rd t282 (rd ((rd_T62 t273 x10_2).f1) x13_4))) = j_ := ⟨_, rfl⟩
                                              replace H : (laws_FnRegionRules.l1 k4 t270 t273 t277 t282 x10_2 (Go.bits .or .i64 x11_4 (ji46)) true (wrap64 (x13_4 + 1))) = some r := by first | (rw [hji46] at H; exact H) | (simp only [hji46] at H ⊢; exact H)
                                              have hji46_ : (IntKind.i64.wrap (1 * 2 ^ min (rd t282 (rd ((rd_T62 t273 x10_2).f1) x13_4)).toNat 64)) = ji46 := hji46
                                              have hji46z : (rd t282 (rd ((rd_T62 t273 x10_2).f1) x13_4)) ≤ 64 → (IntKind.i64.wrap (1 * 2 ^ (rd t282 (rd ((rd_T62 t273 x10_2).f1) x13_4)).toNat)) = ji46 := shl_small hji46
                                              have hji46u : (IntKind.i64.wrap (2 ^ min (rd t282 (rd ((rd_T62 t273 x10_2).f1) x13_4)).toNat 64)) = ji46 := by have h_ := hji46_; rw [Int.one_mul] at h_; exact h_
                                              have hji46v : (rd t282 (rd ((rd_T62 t273 x10_2).f1) x13_4)) ≤ 64 → (IntKind.i64.wrap (2 ^ (rd t282 (rd ((rd_T62 t273 x10_2).f1) x13_4)).toNat)) = ji46 := fun hle_ => by have h_ := hji46z hle_; rw [Int.one_mul] at h_; exact h_
                                              have hji46y : (wrap64 (1 * 2 ^ min (rd t282 (rd ((rd_T62 t273 x10_2).f1) x13_4)).toNat 64)) = ji46 := (i64_w _).symm.trans hji46_
                                              have hji46x : (rd t282 (rd ((rd_T62 t273 x10_2).f1) x13_4)) ≤ 64 → (wrap64 (1 * 2 ^ (rd t282 (rd ((rd_T62 t273 x10_2).f1) x13_4)).toNat)) = ji46 := fun h_ => (i64_w _).symm.trans (hji46z h_)
                                              have H' := Aside0.mk H
                                              clear H
                                              have p291 : 0 ≤ (x10_2 : Int) := of_decide_eq_true (by first | (with_reducible assumption) | assumption)
                                              have q291 : x10_2 < (t273.length : Int) := of_decide_eq_true (by first | (with_reducible assumption) | assumption)
                                              obtain ⟨ad291, A291_1, c291_1, e291, hx291_0, hx291_1, hx291_2, hl291_1, hi291_1⟩ := at_T62 (Kd.S_reads' HO_5.out).2.2 x10_2 p291 q291
                                              cases e291
                                              obtain ⟨ce291, hce291, hMe291, hcc291⟩ := Kd.S_get HO_5.out z62 x10_2 p291 (by first | exact q291 | exact of_decide_eq_true (by first | (with_reducible assumption) | assumption) | (have e_ := (Kd.S_reads' HO_5.out).1; omega))
                                              obtain ⟨ve291_1, rfl, ge291_1⟩ := k62_openM hMe291
                                              have hv291_1 := hcc291 1 _ rfl
                                              rw [add_field _ _ 1 (by omega)] at hv291_1
                                              replace hv291_1 := Option.some.inj (hv291_1.symm.trans hx291_1)
                                              rw [hv291_1] at ge291_1
                                              have HL291_1 := Aside0.mk (show Kd.R (Kd.int .i64) 3 _ _ _ _ ((rd_T62 t273 x10_2).f1) from ge291_1)
                                              clear hv291_1 ge291_1
                                              clear hcc291 hce291
                                              have HR291_1 := Aside0.mk hi291_1
                                              have HC291_1 := Aside0.mk hl291_1
                                              clear hi291_1 hl291_1
                                              replace p291 := eq_true p291
                                              replace q291 := eq_true q291
                                              have p292 : 0 ≤ (x10_2 : Int) := of_decide_eq_true (by first | (with_reducible assumption) | assumption)
                                              have q292 : x10_2 < (t273.length : Int) := of_decide_eq_true (by first | (with_reducible assumption) | assumption)
                                              obtain ⟨ad292, A292_1, c292_1, e292, hx292_0, hx292_1, hx292_2, hl292_1, hi292_1⟩ := at_T62 (Kd.S_reads' HO_5.out).2.2 x10_2 p292 q292
                                              obtain rfl : ad291 = ad292 := (by injection e292)
                                              obtain ⟨ce292, hce292, hMe292, hcc292⟩ := Kd.S_get HO_5.out z62 x10_2 p292 (by first | exact q292 | exact of_decide_eq_true (by first | (with_reducible assumption) | assumption) | (have e_ := (Kd.S_reads' HO_5.out).1; omega))
                                              obtain ⟨ve292_1, rfl, ge292_1⟩ := k62_openM hMe292
                                              have hv292_1 := hcc292 1 _ rfl
                                              rw [add_field _ _ 1 (by omega)] at hv292_1
                                              replace hv292_1 := Option.some.inj (hv292_1.symm.trans hx292_1)
                                              rw [hv292_1] at ge292_1
                                              have HL292_1 := Aside0.mk (show Kd.R (Kd.int .i64) 3 _ _ _ _ ((rd_T62 t273 x10_2).f1) from ge292_1)
                                              clear hv292_1 ge292_1
                                              clear hcc292 hce292
                                              have HR292_1 := Aside0.mk hi292_1
                                              have HC292_1 := Aside0.mk hl292_1
                                              clear hi292_1 hl292_1
                                              replace p292 := eq_true p292
                                              replace q292 := eq_true q292
                                              have ea_ := Option.some.inj (hx291_1.symm.trans hx292_1)
                                              injection ea_ with ea_ en_ ec_
                                              subst ea_
                                              subst ec_
                                              clear en_
                                              have p293 : 0 ≤ (x13_4 : Int) := of_decide_eq_true (by first | (with_reducible assumption) | assumption)
                                              have q293 : x13_4 < (((rd_T62 t273 x10_2).f1).length : Int) := of_decide_eq_true (by first | (with_reducible assumption) | assumption)
                                              obtain ⟨ad293, e293, hx293_0⟩ := Kd.at_int (by repeat (first | (with_reducible exact HR292_1.out) | (with_reducible refine Kd.C_alloc ?_ _) | (with_reducible refine Kd.C_drewN ?_ _) | (with_reducible refine Kd.C_drew ?_) | exact HR292_1.out)) x13_4 p293 q293
                                              cases e293
                                              replace p293 := eq_true p293
                                              replace q293 := eq_true q293
                                              have p294 : 0 ≤ ((rd ((rd_T62 t273 x10_2).f1) x13_4) : Int) := of_decide_eq_true (by first | (with_reducible assumption) | assumption)
                                              have q294 : (rd ((rd_T62 t273 x10_2).f1) x13_4) < (t282.length : Int) := of_decide_eq_true (by first | (with_reducible assumption) | assumption)
                                              obtain ⟨ad294, e294, hx294_0⟩ := Kd.at_int (Kd.R_reads' HO_9.out).2.2 (rd ((rd_T62 t273 x10_2).f1) x13_4) p294 q294
                                              cases e294
                                              replace p294 := eq_true p294
                                              replace q294 := eq_true q294
                                              go_wp2
                                              go_roundg k4
                                              case measure => have := HJ5.out; have := HK2.out; have := HJ22.out; have := HK4.out; omega
                                              case rel => exact ⟨(Go.bits .or .i64 x11_4 (ji46)), (true), (wrap64 (x13_4 + 1)), (by first | rfl | (simp; done) | (simp only [← hji46] <;> (first | rfl | simp)) | (simp [*]; done)), (by first | rfl | (simp; done) | (simp [*]; done)), (by first | rfl | (simp; done) | (simp [*]; done)), H', ⟨by have := HJ5.out; have := HK2.out; have := HJ22.out; have := HK4.out; omega⟩, ⟨by (with_reducible repeat (first | apply Kd.S_alloc | apply Kd.S_drewN | apply Kd.S_drew)); exact HO_5.out⟩, ⟨by (with_reducible repeat (first | apply Kd.S_alloc | apply Kd.S_drewN | apply Kd.S_drew)); exact HO_7.out⟩, ⟨by (with_reducible repeat (first | apply Kd.R_alloc | apply Kd.R_drewN | apply Kd.R_drew)); exact HO_9.out⟩, ⟨by repeat (first | (with_reducible first | exact HB.out | apply below_alloc | apply pw_below_drewN | apply below_drew1) | exact HB.out)⟩⟩
                                            · rw [if_neg c45] at H
                                              exact absurd H (by simp)
                                          · replace c44 := Bool.eq_false_iff.mpr c44
                                            subst c44
                                            have H1 : (if 0 ≤ (rd t282 (rd ((rd_T62 t273 x10_2).f1) x13_4)) then (laws_FnRegionRules.l1 k4 t270 t273 t277 t282 x10_2 (Go.bits .or .i64 x11_4 (shl .i64 1 (rd t282 (rd ((rd_T62 t273 x10_2).f1) x13_4)))) ((Int.tmod (shr .i64 x11_4 (rd t282 (rd ((rd_T62 t273 x10_2).f1) x13_4))) 2) == 1) (wrap64 (x13_4 + 1))) else (none)) = some r := by rw [if_neg (show ¬ (false = true) by decide)] at H; exact H
                                            clear H
                                            have H := H1
                                            clear H1
                                            by_cases c47 : 0 ≤ (rd t282 (rd ((rd_T62 t273 x10_2).f1) x13_4))
                                            · rw [if_pos c47] at H
                                              have c47b0 := eq_true c47
                                              have c47b1 : decide (0 ≤ (rd t282 (rd ((rd_T62 t273 x10_2).f1) x13_4))) = true := decide_eq_true c47
                                              clear c47
                                              obtain ⟨ji48, hji48⟩ : ∃ j_ : Int, (shr .i64 x11_4 (rd t282 (rd ((rd_T62 t273 x10_2).f1) x13_4))) = j_ := ⟨_, rfl⟩
                                              replace H : (laws_FnRegionRules.l1 k4 t270 t273 t277 t282 x10_2 (Go.bits .or .i64 x11_4 (shl .i64 1 (rd t282 (rd ((rd_T62 t273 x10_2).f1) x13_4)))) ((Int.tmod (ji48) 2) == 1) (wrap64 (x13_4 + 1))) = some r := by first | (rw [hji48] at H; exact H) | (simp only [hji48] at H ⊢; exact H)
                                              have hji48_ : (x11_4 / 2 ^ min (rd t282 (rd ((rd_T62 t273 x10_2).f1) x13_4)).toNat 64) = ji48 := hji48
                                              have hji48z : (rd t282 (rd ((rd_T62 t273 x10_2).f1) x13_4)) ≤ 64 → (x11_4 / 2 ^ (rd t282 (rd ((rd_T62 t273 x10_2).f1) x13_4)).toNat) = ji48 := shr_small hji48
                                              have c49b0 := eq_true (of_decide_eq_true (by first | (with_reducible assumption) | assumption) : 0 ≤ (rd t282 (rd ((rd_T62 t273 x10_2).f1) x13_4)))
                                              obtain ⟨ji50, hji50⟩ : ∃ j_ : Int, (shl .i64 1 (rd t282 (rd ((rd_T62 t273 x10_2).f1) x13_4))) = j_ := ⟨_, rfl⟩
                                              replace H : (laws_FnRegionRules.l1 k4 t270 t273 t277 t282 x10_2 (Go.bits .or .i64 x11_4 (ji50)) ((Int.tmod (ji48) 2) == 1) (wrap64 (x13_4 + 1))) = some r := by first | (rw [hji50] at H; exact H) | (simp only [hji50] at H ⊢; exact H)
                                              have hji50_ : (IntKind.i64.wrap (1 * 2 ^ min (rd t282 (rd ((rd_T62 t273 x10_2).f1) x13_4)).toNat 64)) = ji50 := hji50
                                              have hji50z : (rd t282 (rd ((rd_T62 t273 x10_2).f1) x13_4)) ≤ 64 → (IntKind.i64.wrap (1 * 2 ^ (rd t282 (rd ((rd_T62 t273 x10_2).f1) x13_4)).toNat)) = ji50 := shl_small hji50
                                              have hji50u : (IntKind.i64.wrap (2 ^ min (rd t282 (rd ((rd_T62 t273 x10_2).f1) x13_4)).toNat 64)) = ji50 := by have h_ := hji50_; rw [Int.one_mul] at h_; exact h_
                                              have hji50v : (rd t282 (rd ((rd_T62 t273 x10_2).f1) x13_4)) ≤ 64 → (IntKind.i64.wrap (2 ^ (rd t282 (rd ((rd_T62 t273 x10_2).f1) x13_4)).toNat)) = ji50 := fun hle_ => by have h_ := hji50z hle_; rw [Int.one_mul] at h_; exact h_
                                              have hji50y : (wrap64 (1 * 2 ^ min (rd t282 (rd ((rd_T62 t273 x10_2).f1) x13_4)).toNat 64)) = ji50 := (i64_w _).symm.trans hji50_
                                              have hji50x : (rd t282 (rd ((rd_T62 t273 x10_2).f1) x13_4)) ≤ 64 → (wrap64 (1 * 2 ^ (rd t282 (rd ((rd_T62 t273 x10_2).f1) x13_4)).toNat)) = ji50 := fun h_ => (i64_w _).symm.trans (hji50z h_)
                                              have H' := Aside0.mk H
                                              clear H
                                              have p291 : 0 ≤ (x10_2 : Int) := of_decide_eq_true (by first | (with_reducible assumption) | assumption)
                                              have q291 : x10_2 < (t273.length : Int) := of_decide_eq_true (by first | (with_reducible assumption) | assumption)
                                              obtain ⟨ad291, A291_1, c291_1, e291, hx291_0, hx291_1, hx291_2, hl291_1, hi291_1⟩ := at_T62 (Kd.S_reads' HO_5.out).2.2 x10_2 p291 q291
                                              cases e291
                                              obtain ⟨ce291, hce291, hMe291, hcc291⟩ := Kd.S_get HO_5.out z62 x10_2 p291 (by first | exact q291 | exact of_decide_eq_true (by first | (with_reducible assumption) | assumption) | (have e_ := (Kd.S_reads' HO_5.out).1; omega))
                                              obtain ⟨ve291_1, rfl, ge291_1⟩ := k62_openM hMe291
                                              have hv291_1 := hcc291 1 _ rfl
                                              rw [add_field _ _ 1 (by omega)] at hv291_1
                                              replace hv291_1 := Option.some.inj (hv291_1.symm.trans hx291_1)
                                              rw [hv291_1] at ge291_1
                                              have HL291_1 := Aside0.mk (show Kd.R (Kd.int .i64) 3 _ _ _ _ ((rd_T62 t273 x10_2).f1) from ge291_1)
                                              clear hv291_1 ge291_1
                                              clear hcc291 hce291
                                              have HR291_1 := Aside0.mk hi291_1
                                              have HC291_1 := Aside0.mk hl291_1
                                              clear hi291_1 hl291_1
                                              replace p291 := eq_true p291
                                              replace q291 := eq_true q291
                                              have p292 : 0 ≤ (x10_2 : Int) := of_decide_eq_true (by first | (with_reducible assumption) | assumption)
                                              have q292 : x10_2 < (t273.length : Int) := of_decide_eq_true (by first | (with_reducible assumption) | assumption)
                                              obtain ⟨ad292, A292_1, c292_1, e292, hx292_0, hx292_1, hx292_2, hl292_1, hi292_1⟩ := at_T62 (Kd.S_reads' HO_5.out).2.2 x10_2 p292 q292
                                              obtain rfl : ad291 = ad292 := (by injection e292)
                                              obtain ⟨ce292, hce292, hMe292, hcc292⟩ := Kd.S_get HO_5.out z62 x10_2 p292 (by first | exact q292 | exact of_decide_eq_true (by first | (with_reducible assumption) | assumption) | (have e_ := (Kd.S_reads' HO_5.out).1; omega))
                                              obtain ⟨ve292_1, rfl, ge292_1⟩ := k62_openM hMe292
                                              have hv292_1 := hcc292 1 _ rfl
                                              rw [add_field _ _ 1 (by omega)] at hv292_1
                                              replace hv292_1 := Option.some.inj (hv292_1.symm.trans hx292_1)
                                              rw [hv292_1] at ge292_1
                                              have HL292_1 := Aside0.mk (show Kd.R (Kd.int .i64) 3 _ _ _ _ ((rd_T62 t273 x10_2).f1) from ge292_1)
                                              clear hv292_1 ge292_1
                                              clear hcc292 hce292
                                              have HR292_1 := Aside0.mk hi292_1
                                              have HC292_1 := Aside0.mk hl292_1
                                              clear hi292_1 hl292_1
                                              replace p292 := eq_true p292
                                              replace q292 := eq_true q292
                                              have ea_ := Option.some.inj (hx291_1.symm.trans hx292_1)
                                              injection ea_ with ea_ en_ ec_
                                              subst ea_
                                              subst ec_
                                              clear en_
                                              have p293 : 0 ≤ (x13_4 : Int) := of_decide_eq_true (by first | (with_reducible assumption) | assumption)
                                              have q293 : x13_4 < (((rd_T62 t273 x10_2).f1).length : Int) := of_decide_eq_true (by first | (with_reducible assumption) | assumption)
                                              obtain ⟨ad293, e293, hx293_0⟩ := Kd.at_int (by repeat (first | (with_reducible exact HR292_1.out) | (with_reducible refine Kd.C_alloc ?_ _) | (with_reducible refine Kd.C_drewN ?_ _) | (with_reducible refine Kd.C_drew ?_) | exact HR292_1.out)) x13_4 p293 q293
                                              cases e293
                                              replace p293 := eq_true p293
                                              replace q293 := eq_true q293
                                              have p294 : 0 ≤ ((rd ((rd_T62 t273 x10_2).f1) x13_4) : Int) := of_decide_eq_true (by first | (with_reducible assumption) | assumption)
                                              have q294 : (rd ((rd_T62 t273 x10_2).f1) x13_4) < (t282.length : Int) := of_decide_eq_true (by first | (with_reducible assumption) | assumption)
                                              obtain ⟨ad294, e294, hx294_0⟩ := Kd.at_int (Kd.R_reads' HO_9.out).2.2 (rd ((rd_T62 t273 x10_2).f1) x13_4) p294 q294
                                              cases e294
                                              replace p294 := eq_true p294
                                              replace q294 := eq_true q294
                                              go_wp2
                                              go_roundg k4
                                              case measure => have := HJ5.out; have := HK2.out; have := HJ22.out; have := HK4.out; omega
                                              case rel => exact ⟨(Go.bits .or .i64 x11_4 (ji50)), (((Int.tmod (ji48) 2) == 1)), (wrap64 (x13_4 + 1)), (by first | rfl | (simp; done) | (simp only [← hji50] <;> (first | rfl | simp)) | (simp [*]; done)), (by first | rfl | (simp; done) | (simp only [← hji48] <;> (first | rfl | simp)) | (simp [*]; done)), (by first | rfl | (simp; done) | (simp [*]; done)), H', ⟨by have := HJ5.out; have := HK2.out; have := HJ22.out; have := HK4.out; omega⟩, ⟨by (with_reducible repeat (first | apply Kd.S_alloc | apply Kd.S_drewN | apply Kd.S_drew)); exact HO_5.out⟩, ⟨by (with_reducible repeat (first | apply Kd.S_alloc | apply Kd.S_drewN | apply Kd.S_drew)); exact HO_7.out⟩, ⟨by (with_reducible repeat (first | apply Kd.R_alloc | apply Kd.R_drewN | apply Kd.R_drew)); exact HO_9.out⟩, ⟨by repeat (first | (with_reducible first | exact HB.out | apply below_alloc | apply pw_below_drewN | apply below_drew1) | exact HB.out)⟩⟩
                                            · rw [if_neg c47] at H
                                              exact absurd H (by simp)
                                        · rw [if_neg c43] at H
                                          exact absurd H (by simp)
                                      · rw [if_neg c42] at H
                                        exact absurd H (by simp)
                                    · rw [if_neg c41] at H
                                      exact absurd H (by simp)
                                  · rw [if_neg c40] at H
                                    have c40b0 : decide (x13_4 < (((rd_T62 t273 x10_2).f1).length : Int)) = false := decide_eq_false c40
                                    clear c40
                                    replace H := Option.bind_eq_some_iff.mp H
                                    obtain ⟨t296, A510, H⟩ := H
                                    replace H : (if (t296 == x12_4) = true then (some false) else (laws_FnRegionRules.l0 k4 t270 t273 t277 t282 (wrap64 (x10_2 + 1)))) = some r := H
                                    have A51 := Aside0.mk A510
                                    clear A510
                                    by_cases c52 : (t296 == x12_4) = true
                                    · rw [if_pos c52] at H
                                      have c52b0 : (t296 == x12_4) = true := c52
                                      (try (have c52b1 : decide (t296 = x12_4) = true := by simpa using c52))
                                      (try (have c52b2 : (t296 == x12_4) = true := by simpa using c52))
                                      clear c52
                                      obtain rfl := Option.some.inj H
                                      have p291 : 0 ≤ (x10_2 : Int) := of_decide_eq_true (by first | (with_reducible assumption) | assumption)
                                      have q291 : x10_2 < (t273.length : Int) := of_decide_eq_true (by first | (with_reducible assumption) | assumption)
                                      obtain ⟨ad291, A291_1, c291_1, e291, hx291_0, hx291_1, hx291_2, hl291_1, hi291_1⟩ := at_T62 (Kd.S_reads' HO_5.out).2.2 x10_2 p291 q291
                                      cases e291
                                      obtain ⟨ce291, hce291, hMe291, hcc291⟩ := Kd.S_get HO_5.out z62 x10_2 p291 (by first | exact q291 | exact of_decide_eq_true (by first | (with_reducible assumption) | assumption) | (have e_ := (Kd.S_reads' HO_5.out).1; omega))
                                      obtain ⟨ve291_1, rfl, ge291_1⟩ := k62_openM hMe291
                                      have hv291_1 := hcc291 1 _ rfl
                                      rw [add_field _ _ 1 (by omega)] at hv291_1
                                      replace hv291_1 := Option.some.inj (hv291_1.symm.trans hx291_1)
                                      rw [hv291_1] at ge291_1
                                      have HL291_1 := Aside0.mk (show Kd.R (Kd.int .i64) 3 _ _ _ _ ((rd_T62 t273 x10_2).f1) from ge291_1)
                                      clear hv291_1 ge291_1
                                      clear hcc291 hce291
                                      have HR291_1 := Aside0.mk hi291_1
                                      have HC291_1 := Aside0.mk hl291_1
                                      clear hi291_1 hl291_1
                                      replace p291 := eq_true p291
                                      replace q291 := eq_true q291
                                      have p295 : 0 ≤ (x10_2 : Int) := of_decide_eq_true (by first | (with_reducible assumption) | assumption)
                                      have q295 : x10_2 < (t273.length : Int) := of_decide_eq_true (by first | (with_reducible assumption) | assumption)
                                      obtain ⟨ad295, A295_1, c295_1, e295, hx295_0, hx295_1, hx295_2, hl295_1, hi295_1⟩ := at_T62 (Kd.S_reads' HO_5.out).2.2 x10_2 p295 q295
                                      obtain rfl : ad291 = ad295 := (by injection e295)
                                      obtain ⟨ce295, hce295, hMe295, hcc295⟩ := Kd.S_get HO_5.out z62 x10_2 p295 (by first | exact q295 | exact of_decide_eq_true (by first | (with_reducible assumption) | assumption) | (have e_ := (Kd.S_reads' HO_5.out).1; omega))
                                      obtain ⟨ve295_1, rfl, ge295_1⟩ := k62_openM hMe295
                                      have hv295_1 := hcc295 1 _ rfl
                                      rw [add_field _ _ 1 (by omega)] at hv295_1
                                      replace hv295_1 := Option.some.inj (hv295_1.symm.trans hx295_1)
                                      rw [hv295_1] at ge295_1
                                      have HL295_1 := Aside0.mk (show Kd.R (Kd.int .i64) 3 _ _ _ _ ((rd_T62 t273 x10_2).f1) from ge295_1)
                                      clear hv295_1 ge295_1
                                      clear hcc295 hce295
                                      have HR295_1 := Aside0.mk hi295_1
                                      have HC295_1 := Aside0.mk hl295_1
                                      clear hi295_1 hl295_1
                                      replace p295 := eq_true p295
                                      replace q295 := eq_true q295
                                      have ea_ := Option.some.inj (hx291_1.symm.trans hx295_1)
                                      injection ea_ with ea_ en_ ec_
                                      subst ea_
                                      subst ec_
                                      clear en_
                                      go_wp2_with (first | ((with_reducible refine gate_callee (f := 60) rfl ?_); refine goesL_ (some 135) rfl rfl Try.func60 (by kernel_rfl) rfl #[.agg #[.int .i64 ((rd_T62 t273 x10_2).f0), .slice A291_1 ((rd_T62 t273 x10_2).f1).length c291_1, .int .i64 ((rd_T62 t273 x10_2).f2)], .slice Ao21 t282.length co21, .int .i64 t270] rfl (by (try simp only [List.map_toArray, List.map_cons, List.map_nil]); first | done | rfl | (simp only [List.length_drop, List.length_take]; rfl)) ?_; (with_reducible refine (impl_RuleHolds.calls k4 ((rd_T62 t273 x10_2).f0) _ _ ((rd_T62 t273 x10_2).f1) ((rd_T62 t273 x10_2).f2) _ _ t282 t270 t296 _ ?side1 ?side2 ?side3 ?side4 A51.out).mono ?_); (case side1 => repeat (first | exact (by repeat (first | (with_reducible exact HR295_1.out) | (with_reducible refine Kd.C_alloc ?_ _) | (with_reducible refine Kd.C_drewN ?_ _) | (with_reducible refine Kd.C_drew ?_) | exact HR295_1.out)) | (with_reducible refine Kd.C_alloc ?_ _) | (with_reducible refine Kd.C_drewN ?_ _) | (with_reducible refine Kd.C_drew ?_))); (case side2 => exact HC295_1.out); (case side3 => repeat (first | exact (Kd.R_reads' HO_9.out).2.2 | (with_reducible refine Kd.C_alloc ?_ _) | (with_reducible refine Kd.C_drewN ?_ _) | (with_reducible refine Kd.C_drew ?_))); (case side4 => exact (Kd.R_reads' HO_9.out).2.1); rintro e w53 ⟨rfl, hb⟩; refine ⟨_, rfl, ?_⟩; have n0_ := Aside0.mk (Kd.S_below (by (with_reducible repeat (first | apply Kd.S_alloc | apply Kd.S_drewN | apply Kd.S_drew)); exact HO_5.out) hb); have n1_ := Aside0.mk (Kd.S_below (by (with_reducible repeat (first | apply Kd.S_alloc | apply Kd.S_drewN | apply Kd.S_drew)); exact HO_7.out) hb); have n2_ := Aside0.mk (Kd.R_below (by (with_reducible repeat (first | apply Kd.R_alloc | apply Kd.R_drewN | apply Kd.R_drew)); exact HO_9.out) hb); have n3_ := Aside0.mk (Kd.R_below (by (with_reducible repeat (first | apply Kd.R_alloc | apply Kd.R_drewN | apply Kd.R_drew)); exact HL291_1.out) hb); have n4_ := Aside0.mk (Kd.R_below (by (with_reducible repeat (first | apply Kd.R_alloc | apply Kd.R_drewN | apply Kd.R_drew)); exact HL295_1.out) hb); have n5_ := Aside0.mk (Kd.C_below (by repeat (first | (with_reducible exact HR291_1.out) | (with_reducible refine Kd.C_alloc ?_ _) | (with_reducible refine Kd.C_drewN ?_ _) | (with_reducible refine Kd.C_drew ?_) | exact HR291_1.out)) hb); have n6_ := Aside0.mk (Kd.C_below (by repeat (first | (with_reducible exact HR295_1.out) | (with_reducible refine Kd.C_alloc ?_ _) | (with_reducible refine Kd.C_drewN ?_ _) | (with_reducible refine Kd.C_drew ?_) | exact HR295_1.out)) hb); have n7_ := Aside0.mk (below_step (by repeat (first | (with_reducible first | exact HB.out | apply below_alloc | apply pw_below_drewN | apply below_drew1) | exact HB.out)) hb); clear HO_5; clear HO_7; clear HO_9; clear HL291_1; clear HL295_1; clear HR291_1; clear HR295_1; clear HB; have HO_5 := n0_; have HO_7 := n1_; have HO_9 := n2_; have HL291_1 := n3_; have HL295_1 := n4_; have HR291_1 := n5_; have HR295_1 := n6_; have HB := n7_; clear n0_ n1_ n2_ n3_ n4_ n5_ n6_ n7_; (try clear hb); (try clear hb2); (try clear hk); (try clear hi)))
                                      go_ret
                                      exact ⟨by first | rfl | (simp [errW_none, errW_some] <;> rfl) | (simp [*, errW_none, errW_some] <;> rfl), by repeat (first | (with_reducible first | exact HB.out | apply below_alloc | apply pw_below_drewN | apply below_drew1) | exact HB.out)⟩
                                    · rw [if_neg c52] at H
                                      have c52b0 : (t296 == x12_4) = false := by simpa using c52
                                      (try (have c52b1 : decide (t296 = x12_4) = false := by simpa using c52))
                                      (try (have c52b2 : (t296 == x12_4) = false := by simpa using c52))
                                      (try (have c52b3 : ¬ (t296 = x12_4) := by simpa using c52))
                                      clear c52
                                      have H' := Aside0.mk H
                                      clear H
                                      have p291 : 0 ≤ (x10_2 : Int) := of_decide_eq_true (by first | (with_reducible assumption) | assumption)
                                      have q291 : x10_2 < (t273.length : Int) := of_decide_eq_true (by first | (with_reducible assumption) | assumption)
                                      obtain ⟨ad291, A291_1, c291_1, e291, hx291_0, hx291_1, hx291_2, hl291_1, hi291_1⟩ := at_T62 (Kd.S_reads' HO_5.out).2.2 x10_2 p291 q291
                                      cases e291
                                      obtain ⟨ce291, hce291, hMe291, hcc291⟩ := Kd.S_get HO_5.out z62 x10_2 p291 (by first | exact q291 | exact of_decide_eq_true (by first | (with_reducible assumption) | assumption) | (have e_ := (Kd.S_reads' HO_5.out).1; omega))
                                      obtain ⟨ve291_1, rfl, ge291_1⟩ := k62_openM hMe291
                                      have hv291_1 := hcc291 1 _ rfl
                                      rw [add_field _ _ 1 (by omega)] at hv291_1
                                      replace hv291_1 := Option.some.inj (hv291_1.symm.trans hx291_1)
                                      rw [hv291_1] at ge291_1
                                      have HL291_1 := Aside0.mk (show Kd.R (Kd.int .i64) 3 _ _ _ _ ((rd_T62 t273 x10_2).f1) from ge291_1)
                                      clear hv291_1 ge291_1
                                      clear hcc291 hce291
                                      have HR291_1 := Aside0.mk hi291_1
                                      have HC291_1 := Aside0.mk hl291_1
                                      clear hi291_1 hl291_1
                                      replace p291 := eq_true p291
                                      replace q291 := eq_true q291
                                      have p295 : 0 ≤ (x10_2 : Int) := of_decide_eq_true (by first | (with_reducible assumption) | assumption)
                                      have q295 : x10_2 < (t273.length : Int) := of_decide_eq_true (by first | (with_reducible assumption) | assumption)
                                      obtain ⟨ad295, A295_1, c295_1, e295, hx295_0, hx295_1, hx295_2, hl295_1, hi295_1⟩ := at_T62 (Kd.S_reads' HO_5.out).2.2 x10_2 p295 q295
                                      obtain rfl : ad291 = ad295 := (by injection e295)
                                      obtain ⟨ce295, hce295, hMe295, hcc295⟩ := Kd.S_get HO_5.out z62 x10_2 p295 (by first | exact q295 | exact of_decide_eq_true (by first | (with_reducible assumption) | assumption) | (have e_ := (Kd.S_reads' HO_5.out).1; omega))
                                      obtain ⟨ve295_1, rfl, ge295_1⟩ := k62_openM hMe295
                                      have hv295_1 := hcc295 1 _ rfl
                                      rw [add_field _ _ 1 (by omega)] at hv295_1
                                      replace hv295_1 := Option.some.inj (hv295_1.symm.trans hx295_1)
                                      rw [hv295_1] at ge295_1
                                      have HL295_1 := Aside0.mk (show Kd.R (Kd.int .i64) 3 _ _ _ _ ((rd_T62 t273 x10_2).f1) from ge295_1)
                                      clear hv295_1 ge295_1
                                      clear hcc295 hce295
                                      have HR295_1 := Aside0.mk hi295_1
                                      have HC295_1 := Aside0.mk hl295_1
                                      clear hi295_1 hl295_1
                                      replace p295 := eq_true p295
                                      replace q295 := eq_true q295
                                      have ea_ := Option.some.inj (hx291_1.symm.trans hx295_1)
                                      injection ea_ with ea_ en_ ec_
                                      subst ea_
                                      subst ec_
                                      clear en_
                                      go_wp2_with (first | ((with_reducible refine gate_callee (f := 60) rfl ?_); refine goesL_ (some 135) rfl rfl Try.func60 (by kernel_rfl) rfl #[.agg #[.int .i64 ((rd_T62 t273 x10_2).f0), .slice A291_1 ((rd_T62 t273 x10_2).f1).length c291_1, .int .i64 ((rd_T62 t273 x10_2).f2)], .slice Ao21 t282.length co21, .int .i64 t270] rfl (by (try simp only [List.map_toArray, List.map_cons, List.map_nil]); first | done | rfl | (simp only [List.length_drop, List.length_take]; rfl)) ?_; (with_reducible refine (impl_RuleHolds.calls k4 ((rd_T62 t273 x10_2).f0) _ _ ((rd_T62 t273 x10_2).f1) ((rd_T62 t273 x10_2).f2) _ _ t282 t270 t296 _ ?side1 ?side2 ?side3 ?side4 A51.out).mono ?_); (case side1 => repeat (first | exact (by repeat (first | (with_reducible exact HR295_1.out) | (with_reducible refine Kd.C_alloc ?_ _) | (with_reducible refine Kd.C_drewN ?_ _) | (with_reducible refine Kd.C_drew ?_) | exact HR295_1.out)) | (with_reducible refine Kd.C_alloc ?_ _) | (with_reducible refine Kd.C_drewN ?_ _) | (with_reducible refine Kd.C_drew ?_))); (case side2 => exact HC295_1.out); (case side3 => repeat (first | exact (Kd.R_reads' HO_9.out).2.2 | (with_reducible refine Kd.C_alloc ?_ _) | (with_reducible refine Kd.C_drewN ?_ _) | (with_reducible refine Kd.C_drew ?_))); (case side4 => exact (Kd.R_reads' HO_9.out).2.1); rintro e w54 ⟨rfl, hb⟩; refine ⟨_, rfl, ?_⟩; have n0_ := Aside0.mk (Kd.S_below (by (with_reducible repeat (first | apply Kd.S_alloc | apply Kd.S_drewN | apply Kd.S_drew)); exact HO_5.out) hb); have n1_ := Aside0.mk (Kd.S_below (by (with_reducible repeat (first | apply Kd.S_alloc | apply Kd.S_drewN | apply Kd.S_drew)); exact HO_7.out) hb); have n2_ := Aside0.mk (Kd.R_below (by (with_reducible repeat (first | apply Kd.R_alloc | apply Kd.R_drewN | apply Kd.R_drew)); exact HO_9.out) hb); have n3_ := Aside0.mk (Kd.R_below (by (with_reducible repeat (first | apply Kd.R_alloc | apply Kd.R_drewN | apply Kd.R_drew)); exact HL291_1.out) hb); have n4_ := Aside0.mk (Kd.R_below (by (with_reducible repeat (first | apply Kd.R_alloc | apply Kd.R_drewN | apply Kd.R_drew)); exact HL295_1.out) hb); have n5_ := Aside0.mk (Kd.C_below (by repeat (first | (with_reducible exact HR291_1.out) | (with_reducible refine Kd.C_alloc ?_ _) | (with_reducible refine Kd.C_drewN ?_ _) | (with_reducible refine Kd.C_drew ?_) | exact HR291_1.out)) hb); have n6_ := Aside0.mk (Kd.C_below (by repeat (first | (with_reducible exact HR295_1.out) | (with_reducible refine Kd.C_alloc ?_ _) | (with_reducible refine Kd.C_drewN ?_ _) | (with_reducible refine Kd.C_drew ?_) | exact HR295_1.out)) hb); have n7_ := Aside0.mk (below_step (by repeat (first | (with_reducible first | exact HB.out | apply below_alloc | apply pw_below_drewN | apply below_drew1) | exact HB.out)) hb); clear HO_5; clear HO_7; clear HO_9; clear HL291_1; clear HL295_1; clear HR291_1; clear HR295_1; clear HB; have HO_5 := n0_; have HO_7 := n1_; have HO_9 := n2_; have HL291_1 := n3_; have HL295_1 := n4_; have HR291_1 := n5_; have HR295_1 := n6_; have HB := n7_; clear n0_ n1_ n2_ n3_ n4_ n5_ n6_ n7_; (try clear hb); (try clear hb2); (try clear hk); (try clear hi)))
                                      go_roundg k4
                                      case measure => have := HJ5.out; have := HK2.out; have := HJ22.out; have := HK4.out; omega
                                      case rel => exact ⟨(wrap64 (x10_2 + 1)), (by first | rfl | (simp; done) | (simp [*]; done)), H', ⟨by have := HJ5.out; have := HK2.out; have := HJ22.out; have := HK4.out; omega⟩, ⟨by (with_reducible repeat (first | apply Kd.S_alloc | apply Kd.S_drewN | apply Kd.S_drew)); exact HO_5.out⟩, ⟨by (with_reducible repeat (first | apply Kd.S_alloc | apply Kd.S_drewN | apply Kd.S_drew)); exact HO_7.out⟩, ⟨by (with_reducible repeat (first | apply Kd.R_alloc | apply Kd.R_drewN | apply Kd.R_drew)); exact HO_9.out⟩, ⟨by repeat (first | (with_reducible first | exact HB.out | apply below_alloc | apply pw_below_drewN | apply below_drew1) | exact HB.out)⟩⟩
                                · rw [if_neg c39] at H
                                  exact absurd H (by simp)
                              · rw [if_neg c38] at H
                                exact absurd H (by simp)
                  · rw [if_neg c22] at H
                    have c22b0 : decide (x10_2 < (t273.length : Int)) = false := decide_eq_false c22
                    clear c22
                    obtain rfl := Option.some.inj H
                    obtain ⟨Ao55, co55, eo55⟩ := Kd.S_slice HO_5.out
                    subst eo55
                    go_wp2
                    go_ret
                    exact ⟨by first | rfl | (simp [errW_none, errW_some] <;> rfl) | (simp [*, errW_none, errW_some] <;> rfl), by repeat (first | (with_reducible first | exact HB.out | apply below_alloc | apply pw_below_drewN | apply below_drew1) | exact HB.out)⟩
            · rw [if_neg c19] at H
              have c19b0 : ((t282.length : Int) == (wrap64 (t270 * t270))) = false := beq_eq_false_iff_ne.mpr c19
              have c19b1 : ((t282.length : Int) != (wrap64 (t270 * t270))) = true := bne_iff_ne.mpr c19
              obtain rfl := Option.some.inj H
              go_wp2_with (first | ((with_reducible refine gate_callee (f := 58) rfl ?_); refine goesL_ (some 54) rfl rfl Try.func58 (by kernel_rfl) rfl #[.int .i64 t270] rfl (by (try simp only [List.map_toArray, List.map_cons, List.map_nil]); first | done | rfl | (simp only [List.length_drop, List.length_take]; rfl)) ?_; (with_reducible refine (impl_SquareOf.calls kj5 t270 t282 _ A18.out).mono ?_); rintro e w56 ⟨v283, rfl, ho0, hb⟩; refine ⟨_, rfl, ?_⟩; have n0_ := Aside0.mk (Kd.S_elder' (by (with_reducible repeat (first | apply Kd.S_alloc | apply Kd.S_drewN | apply Kd.S_drew)); exact HO_5.out) (Kd.R_base ho0) hb); have n1_ := Aside0.mk (Kd.S_elder' (by (with_reducible repeat (first | apply Kd.S_alloc | apply Kd.S_drewN | apply Kd.S_drew)); exact HO_7.out) (Kd.R_base ho0) hb); have n2_ := Aside0.mk (Kd.R_lower ho0 (below_size (by repeat (first | (with_reducible first | exact HB.out | apply below_alloc | apply pw_below_drewN | apply below_drew1) | exact HB.out)))); have n3_ := Aside0.mk (below_step (by repeat (first | (with_reducible first | exact HB.out | apply below_alloc | apply pw_below_drewN | apply below_drew1) | exact HB.out)) hb); clear HO_5; clear HO_7; clear HB; have HO_5 := n0_; have HO_7 := n1_; have HO284 := n2_; have HB := n3_; clear n0_ n1_ n2_ n3_; (try clear hb); (try clear hb2); (try clear hk); (try clear hi); (try clear ho0); obtain ⟨Ao57, co57, eo57⟩ := Kd.R_slice HO284.out; subst eo57))
              go_ret
              exact ⟨by first | rfl | (simp [errW_none, errW_some] <;> rfl) | (simp [*, errW_none, errW_some] <;> rfl), by repeat (first | (with_reducible first | exact HB.out | apply below_alloc | apply pw_below_drewN | apply below_drew1) | exact HB.out)⟩
          · replace c17 := Bool.eq_false_iff.mpr c17
            subst c17
            have H1 : (if (t273.length : Int) = 0 then ((laws_alive.f kj5).bind fun t281 => (some t281)) else (some false)) = some r := by rw [if_neg (show ¬ (false = true) by decide)] at H; exact H
            clear H
            have H := H1
            clear H1
            by_cases c58 : (t273.length : Int) = 0
            · rw [if_pos c58] at H
              have c58b0 : ((t273.length : Int) == 0) = true := beq_iff_eq.mpr c58
              have c58b1 : ((t273.length : Int) != 0) = false := bne_eq_false_iff_eq.mpr c58
              clear c58
              replace H := Option.bind_eq_some_iff.mp H
              obtain ⟨t281, A590, H⟩ := H
              replace H : (some t281) = some r := H
              have A59 := Aside0.mk A590
              clear A590
              obtain rfl := Option.some.inj H
              obtain ⟨Ao60, co60, eo60⟩ := Kd.S_slice HO_5.out
              subst eo60
              go_wp2_with (first | (go_at_call 27; (with_reducible refine (laws_alive.calls kj5  t281 _ A59.out).mono ?_); rintro e w61 ⟨rfl, hb⟩; have n0_ := Aside0.mk (Kd.S_below (by (with_reducible repeat (first | apply Kd.S_alloc | apply Kd.S_drewN | apply Kd.S_drew)); exact HO_5.out) hb); have n1_ := Aside0.mk (Kd.S_below (by (with_reducible repeat (first | apply Kd.S_alloc | apply Kd.S_drewN | apply Kd.S_drew)); exact HO_7.out) hb); have n2_ := Aside0.mk (below_step (by repeat (first | (with_reducible first | exact HB.out | apply below_alloc | apply pw_below_drewN | apply below_drew1) | exact HB.out)) hb); clear HO_5; clear HO_7; clear HB; have HO_5 := n0_; have HO_7 := n1_; have HB := n2_; clear n0_ n1_ n2_; (try clear hb); (try clear hb2); (try clear hk); (try clear hi)))
              go_ret
              exact ⟨by first | rfl | (simp [errW_none, errW_some] <;> rfl) | (simp [*, errW_none, errW_some] <;> rfl), by repeat (first | (with_reducible first | exact HB.out | apply below_alloc | apply pw_below_drewN | apply below_drew1) | exact HB.out)⟩
            · rw [if_neg c58] at H
              have c58b0 : ((t273.length : Int) == 0) = false := beq_eq_false_iff_ne.mpr c58
              have c58b1 : ((t273.length : Int) != 0) = true := bne_iff_ne.mpr c58
              have c58b2 : ¬ (t273 = []) := fun h_ => c58 (by rw [h_]; rfl)
              obtain rfl := Option.some.inj H
              obtain ⟨Ao62, co62, eo62⟩ := Kd.S_slice HO_5.out
              subst eo62
              go_wp2
              go_ret
              exact ⟨by first | rfl | (simp [errW_none, errW_some] <;> rfl) | (simp [*, errW_none, errW_some] <;> rfl), by repeat (first | (with_reducible first | exact HB.out | apply below_alloc | apply pw_below_drewN | apply below_drew1) | exact HB.out)⟩

/-- THE ONE PURE STATEMENT of laws_FnRegionRules: yours. -/
def laws_FnRegionRules.Pure : Prop := ∀ (l0 : List Int), l0.length ≤ maxLen → l0.length * 1 ≤ 140737488351232 → (∀ x ∈ l0, (Lit.int .u8 x).wf = true) → ∃ k, laws_FnRegionRules.f k l0 = some true
theorem laws_FnRegionRules.walk (P : laws_FnRegionRules.Pure) (a0 : Option Addr) (len0 cap0 : Nat) (z0 : List Int) (w : World) (w0 : (a0 = none ∧ len0 = 0 ∧ cap0 = 0 ∧ z0 = []) ∨ ∃ x, a0 = some x ∧ len0 ≤ cap0 ∧ cap0 ≤ maxLen ∧ z0.length = cap0 ∧ (∀ i, i < z0.length → w.cell? (x.add i) = some (.int .u8 (z0.getD i 0))) ∧ ∀ n ∈ z0, (Lit.int .u8 n).wf = true) (y0 : len0 * 1 ≤ 140737488351232) :
    Calls Try.prog 13 #[.slice a0 len0 cap0] w fun e w' => e = .returned (.bool true) ∧ Below w.heap.size w w' := by
  obtain ⟨l0, rfl, hr0, hm0, hw0, hc0⟩ := ReadsInt.ofRowC w0
  obtain ⟨k, h⟩ := P l0 hm0 y0 hw0
  refine (laws_FnRegionRules.calls k _ _ l0 true w (Kd.C_of_reads (d := (0 : Int)) (h1 := fun _ => rfl) hr0) hc0 h).mono ?_
  rintro e w' ⟨rfl, hd⟩
  exact ⟨rfl, hd⟩

end Go.Proofs.Ytdinbpfklikghaa.PFnRegionRules
