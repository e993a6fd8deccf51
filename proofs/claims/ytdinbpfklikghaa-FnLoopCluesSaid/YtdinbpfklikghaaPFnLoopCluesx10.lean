/- Functions of the program as plain Lean functions, and what a call of each comes to. No conditions. -/
import Derived.Test.YtdinbpfklikghaaPFnLoopCluesx0
import Derived.Test.YtdinbpfklikghaaPFnLoopCluesx2
import Derived.Test.YtdinbpfklikghaaPFnLoopCluesx3
import Derived.Test.YtdinbpfklikghaaPFnLoopCluesx4
import Derived.Test.YtdinbpfklikghaaPFnLoopCluesx5
import Derived.Test.YtdinbpfklikghaaPFnLoopCluesx9
namespace Go.Proofs.Ytdinbpfklikghaa.PFnLoopClues
open Go.RowKit Go.Proofs.YtdinbpfklikghaaW.PrintWords Go.Proofs.YtdinbpfklikghaaW.PrintLast Go.Proofs.YtdinbpfklikghaaW.PrintMore
attribute [local go_sem] max2_int min2_int max_two min_two max_three min_three max_four min_four   -- for this text's walks alone
set_option linter.unusedVariables false
set_option linter.unusedSimpArgs false

/-! ### laws_FnLoopClues: function 6 -/
mutual
def laws_FnLoopClues.l0 : Nat → List Int → Int → Int → Int → Int → List (List Bool) → List (List Bool) → Option (Bool)
  | 0, _, _, _, _, _, _, _ => none
  | k + 1, x4, x5, x6, x279000, x279001, x279002, x279003 => if x6 < (x4.length : Int) then (if 0 ≤ x6 then (if (rd x4 x6) < 0 then (some false) else (if (rd x4 x6) > 4 then (some false) else (laws_FnLoopClues.l0 k x4 (wrap64 (x5 + (rd x4 x6))) (wrap64 (x6 + 1)) x279000 x279001 x279002 x279003))) else (none)) else (laws_FnLoopClues.l1 k x4 x5 0 0 x279000 x279001 x279002 x279003)
def laws_FnLoopClues.l1 : Nat → List Int → Int → Int → Int → Int → Int → List (List Bool) → List (List Bool) → Option (Bool)
  | 0, _, _, _, _, _, _, _, _ => none
  | k + 1, x4, x5, x7, x8, x279000, x279001, x279002, x279003 => if x8 < x279001 then (if 0 < (x279002.length : Int) then (if 0 ≤ x8 then (if x8 < ((rd_L1 x279002 0).length : Int) then (if rdOf false (rd_L1 x279002 0) x8 = true then (if 0 ≤ x279000 then (if x279000 < (x279002.length : Int) then (if x8 < ((rd_L1 x279002 x279000).length : Int) then (if rdOf false (rd_L1 x279002 x279000) x8 = true then (laws_FnLoopClues.l1 k x4 x5 (wrap64 ((wrap64 (x7 + 1)) + 1)) (wrap64 (x8 + 1)) x279000 x279001 x279002 x279003) else (laws_FnLoopClues.l1 k x4 x5 (wrap64 (x7 + 1)) (wrap64 (x8 + 1)) x279000 x279001 x279002 x279003)) else (none)) else (none)) else (none)) else (if 0 ≤ x279000 then (if x279000 < (x279002.length : Int) then (if x8 < ((rd_L1 x279002 x279000).length : Int) then (if rdOf false (rd_L1 x279002 x279000) x8 = true then (laws_FnLoopClues.l1 k x4 x5 (wrap64 (x7 + 1)) (wrap64 (x8 + 1)) x279000 x279001 x279002 x279003) else (laws_FnLoopClues.l1 k x4 x5 x7 (wrap64 (x8 + 1)) x279000 x279001 x279002 x279003)) else (none)) else (none)) else (none))) else (none)) else (none)) else (none)) else (laws_FnLoopClues.l2 k x4 x5 x7 0 x279000 x279001 x279002 x279003)
def laws_FnLoopClues.l2 : Nat → List Int → Int → Int → Int → Int → Int → List (List Bool) → List (List Bool) → Option (Bool)
  | 0, _, _, _, _, _, _, _, _ => none
  | k + 1, x4, x5, x7, x9, x279000, x279001, x279002, x279003 => if x9 < x279000 then (if 0 < (x279003.length : Int) then (if 0 ≤ x9 then (if x9 < ((rd_L1 x279003 0).length : Int) then (if rdOf false (rd_L1 x279003 0) x9 = true then (if 0 ≤ x279001 then (if x279001 < (x279003.length : Int) then (if x9 < ((rd_L1 x279003 x279001).length : Int) then (if rdOf false (rd_L1 x279003 x279001) x9 = true then (laws_FnLoopClues.l2 k x4 x5 (wrap64 ((wrap64 (x7 + 1)) + 1)) (wrap64 (x9 + 1)) x279000 x279001 x279002 x279003) else (laws_FnLoopClues.l2 k x4 x5 (wrap64 (x7 + 1)) (wrap64 (x9 + 1)) x279000 x279001 x279002 x279003)) else (none)) else (none)) else (none)) else (if 0 ≤ x279001 then (if x279001 < (x279003.length : Int) then (if x9 < ((rd_L1 x279003 x279001).length : Int) then (if rdOf false (rd_L1 x279003 x279001) x9 = true then (laws_FnLoopClues.l2 k x4 x5 (wrap64 (x7 + 1)) (wrap64 (x9 + 1)) x279000 x279001 x279002 x279003) else (laws_FnLoopClues.l2 k x4 x5 x7 (wrap64 (x9 + 1)) x279000 x279001 x279002 x279003)) else (none)) else (none)) else (none))) else (none)) else (none)) else (none)) else (if (x4.length : Int) = (wrap64 (x279000 * x279001)) then ((impl_LoopLength.f k x279000 x279001 x279002 x279003).bind fun t297 => (some (x5 == (wrap64 ((wrap64 (2 * t297)) - x7))))) else (some false))
end
def laws_FnLoopClues.f (k : Nat) (l0 : List Int) : Option (Bool) := if (l0.length : Int) > 1048576 then (some true) else ((spec_DrawLoopClues.f k l0).bind fun bt270 => ((impl_LoopClues.f k bt270.1 bt270.2.1 bt270.2.2.1 bt270.2.2.2).bind fun t279 => ((spec_LoopClues.f k bt270.1 bt270.2.1 bt270.2.2.1 bt270.2.2.2).bind fun t282 => ((laws_sameInts.f k t279 t282).bind fun t285 => (if t285 = true then ((spec_LoopValid.f k bt270.1 bt270.2.1 bt270.2.2.1 bt270.2.2.2).bind fun t286 => (if t286 = true then (laws_FnLoopClues.l0 k t279 0 0 bt270.1 bt270.2.1 bt270.2.2.1 bt270.2.2.2) else (if (t279.length : Int) = 0 then ((laws_alive.f k).bind fun t287 => (some t287)) else (some false)))) else (some false))))))
theorem laws_FnLoopClues.mono_l : ∀ k, (∀ y0 y1 y2 y3 y4 y5 y6, LeO (laws_FnLoopClues.l0 k y0 y1 y2 y3 y4 y5 y6) (laws_FnLoopClues.l0 (k + 1) y0 y1 y2 y3 y4 y5 y6)) ∧ (∀ y0 y1 y2 y3 y4 y5 y6 y7, LeO (laws_FnLoopClues.l1 k y0 y1 y2 y3 y4 y5 y6 y7) (laws_FnLoopClues.l1 (k + 1) y0 y1 y2 y3 y4 y5 y6 y7)) ∧ (∀ y0 y1 y2 y3 y4 y5 y6 y7, LeO (laws_FnLoopClues.l2 k y0 y1 y2 y3 y4 y5 y6 y7) (laws_FnLoopClues.l2 (k + 1) y0 y1 y2 y3 y4 y5 y6 y7))
  | 0 => ⟨fun _ _ _ _ _ _ _ r h => by simp [laws_FnLoopClues.l0] at h, fun _ _ _ _ _ _ _ _ r h => by simp [laws_FnLoopClues.l1] at h, fun _ _ _ _ _ _ _ _ r h => by simp [laws_FnLoopClues.l2] at h⟩
  | k + 1 => by
    obtain ⟨ih0, ih1, ih2⟩ := laws_FnLoopClues.mono_l k
    refine ⟨?_, ?_, ?_⟩
    · intro y0 y1 y2 y3 y4 y5 y6
      unfold laws_FnLoopClues.l0
      repeat' first
      | (with_reducible exact ih0 _ _ _ _ _ _ _)
      | (with_reducible exact ih1 _ _ _ _ _ _ _ _)
      | (with_reducible exact ih2 _ _ _ _ _ _ _ _)
      | (with_reducible exact impl_LoopClues.mono _ _ _ _ _)
      | (with_reducible exact impl_LoopLength.mono _ _ _ _ _)
      | (with_reducible exact laws_alive.mono _)
      | (with_reducible exact laws_sameInts.mono _ _ _)
      | (with_reducible exact spec_DrawLoopClues.mono _ _)
      | (with_reducible exact spec_LoopClues.mono _ _ _ _ _)
      | (with_reducible exact spec_LoopValid.mono _ _ _ _ _)
      | (with_reducible exact LeO.refl _)
      | (with_reducible exact LeO.none _)
      | (with_reducible refine LeO.ite ?_ ?_)
      | (with_reducible refine LeO.bind ?_ (fun _ => ?_))
      | exact ih0 _ _ _ _ _ _ _
      | exact ih1 _ _ _ _ _ _ _ _
      | exact ih2 _ _ _ _ _ _ _ _
      | exact impl_LoopClues.mono _ _ _ _ _
      | exact impl_LoopLength.mono _ _ _ _ _
      | exact laws_alive.mono _
      | exact laws_sameInts.mono _ _ _
      | exact spec_DrawLoopClues.mono _ _
      | exact spec_LoopClues.mono _ _ _ _ _
      | exact spec_LoopValid.mono _ _ _ _ _
      | exact LeO.none _
      | refine LeO.ite ?_ ?_
      | refine LeO.bind ?_ (fun _ => ?_)
    · intro y0 y1 y2 y3 y4 y5 y6 y7
      unfold laws_FnLoopClues.l1
      repeat' first
      | (with_reducible exact ih0 _ _ _ _ _ _ _)
      | (with_reducible exact ih1 _ _ _ _ _ _ _ _)
      | (with_reducible exact ih2 _ _ _ _ _ _ _ _)
      | (with_reducible exact impl_LoopClues.mono _ _ _ _ _)
      | (with_reducible exact impl_LoopLength.mono _ _ _ _ _)
      | (with_reducible exact laws_alive.mono _)
      | (with_reducible exact laws_sameInts.mono _ _ _)
      | (with_reducible exact spec_DrawLoopClues.mono _ _)
      | (with_reducible exact spec_LoopClues.mono _ _ _ _ _)
      | (with_reducible exact spec_LoopValid.mono _ _ _ _ _)
      | (with_reducible exact LeO.refl _)
      | (with_reducible exact LeO.none _)
      | (with_reducible refine LeO.ite ?_ ?_)
      | (with_reducible refine LeO.bind ?_ (fun _ => ?_))
      | exact ih0 _ _ _ _ _ _ _
      | exact ih1 _ _ _ _ _ _ _ _
      | exact ih2 _ _ _ _ _ _ _ _
      | exact impl_LoopClues.mono _ _ _ _ _
      | exact impl_LoopLength.mono _ _ _ _ _
      | exact laws_alive.mono _
      | exact laws_sameInts.mono _ _ _
      | exact spec_DrawLoopClues.mono _ _
      | exact spec_LoopClues.mono _ _ _ _ _
      | exact spec_LoopValid.mono _ _ _ _ _
      | exact LeO.none _
      | refine LeO.ite ?_ ?_
      | refine LeO.bind ?_ (fun _ => ?_)
    · intro y0 y1 y2 y3 y4 y5 y6 y7
      unfold laws_FnLoopClues.l2
      repeat' first
      | (with_reducible exact ih0 _ _ _ _ _ _ _)
      | (with_reducible exact ih1 _ _ _ _ _ _ _ _)
      | (with_reducible exact ih2 _ _ _ _ _ _ _ _)
      | (with_reducible exact impl_LoopClues.mono _ _ _ _ _)
      | (with_reducible exact impl_LoopLength.mono _ _ _ _ _)
      | (with_reducible exact laws_alive.mono _)
      | (with_reducible exact laws_sameInts.mono _ _ _)
      | (with_reducible exact spec_DrawLoopClues.mono _ _)
      | (with_reducible exact spec_LoopClues.mono _ _ _ _ _)
      | (with_reducible exact spec_LoopValid.mono _ _ _ _ _)
      | (with_reducible exact LeO.refl _)
      | (with_reducible exact LeO.none _)
      | (with_reducible refine LeO.ite ?_ ?_)
      | (with_reducible refine LeO.bind ?_ (fun _ => ?_))
      | exact ih0 _ _ _ _ _ _ _
      | exact ih1 _ _ _ _ _ _ _ _
      | exact ih2 _ _ _ _ _ _ _ _
      | exact impl_LoopClues.mono _ _ _ _ _
      | exact impl_LoopLength.mono _ _ _ _ _
      | exact laws_alive.mono _
      | exact laws_sameInts.mono _ _ _
      | exact spec_DrawLoopClues.mono _ _
      | exact spec_LoopClues.mono _ _ _ _ _
      | exact spec_LoopValid.mono _ _ _ _ _
      | exact LeO.none _
      | refine LeO.ite ?_ ?_
      | refine LeO.bind ?_ (fun _ => ?_)
theorem laws_FnLoopClues.mono : ∀ a0 k, LeO (laws_FnLoopClues.f k a0) (laws_FnLoopClues.f (k + 1) a0) := by
  intro a0 k
  obtain ⟨ih0, ih1, ih2⟩ := laws_FnLoopClues.mono_l k
  unfold laws_FnLoopClues.f
  repeat' first
      | (with_reducible exact ih0 _ _ _ _ _ _ _)
      | (with_reducible exact ih1 _ _ _ _ _ _ _ _)
      | (with_reducible exact ih2 _ _ _ _ _ _ _ _)
      | (with_reducible exact impl_LoopClues.mono _ _ _ _ _)
      | (with_reducible exact impl_LoopLength.mono _ _ _ _ _)
      | (with_reducible exact laws_alive.mono _)
      | (with_reducible exact laws_sameInts.mono _ _ _)
      | (with_reducible exact spec_DrawLoopClues.mono _ _)
      | (with_reducible exact spec_LoopClues.mono _ _ _ _ _)
      | (with_reducible exact spec_LoopValid.mono _ _ _ _ _)
      | (with_reducible exact LeO.refl _)
      | (with_reducible exact LeO.none _)
      | (with_reducible refine LeO.ite ?_ ?_)
      | (with_reducible refine LeO.bind ?_ (fun _ => ?_))
      | exact ih0 _ _ _ _ _ _ _
      | exact ih1 _ _ _ _ _ _ _ _
      | exact ih2 _ _ _ _ _ _ _ _
      | exact impl_LoopClues.mono _ _ _ _ _
      | exact impl_LoopLength.mono _ _ _ _ _
      | exact laws_alive.mono _
      | exact laws_sameInts.mono _ _ _
      | exact spec_DrawLoopClues.mono _ _
      | exact spec_LoopClues.mono _ _ _ _ _
      | exact spec_LoopValid.mono _ _ _ _ _
      | exact LeO.none _
      | refine LeO.ite ?_ ?_
      | refine LeO.bind ?_ (fun _ => ?_)
set_option maxHeartbeats 8000000 in
set_option maxRecDepth 100000 in
theorem laws_FnLoopClues.calls (k : Nat) (A0 : Option Addr) (c0 : Nat) (l0 : List Int) (r : Bool) (w : World) (hr0 : Kd.C (Kd.int .u8) w A0 l0.length l0) (hc0 : l0.length ≤ c0) (h : laws_FnLoopClues.f k l0 = some r) :
    Calls Try.prog 6 #[.slice A0 l0.length c0] w fun e w' => e = .returned (.bool r) ∧ Below w.heap.size w w' := by
  have hu27 := Try.underlying27
  have HR0 := Aside0.mk hr0
  have HC0 := Aside0.mk hc0
  clear hr0 hc0
  have HB := Aside0.mk (Below.refl w.heap.size w)
  have H : (if (l0.length : Int) > 1048576 then (some true) else ((spec_DrawLoopClues.f k l0).bind fun bt270 => ((impl_LoopClues.f k bt270.1 bt270.2.1 bt270.2.2.1 bt270.2.2.2).bind fun t279 => ((spec_LoopClues.f k bt270.1 bt270.2.1 bt270.2.2.1 bt270.2.2.2).bind fun t282 => ((laws_sameInts.f k t279 t282).bind fun t285 => (if t285 = true then ((spec_LoopValid.f k bt270.1 bt270.2.1 bt270.2.2.1 bt270.2.2.2).bind fun t286 => (if t286 = true then (laws_FnLoopClues.l0 k t279 0 0 bt270.1 bt270.2.1 bt270.2.2.1 bt270.2.2.2) else (if (t279.length : Int) = 0 then ((laws_alive.f k).bind fun t287 => (some t287)) else (some false)))) else (some false))))))) = some r := h
  clear h
  by_cases c2 : (l0.length : Int) > 1048576
  · rw [if_pos c2] at H
    have c2b0 : decide (1048576 < (l0.length : Int)) = true := decide_eq_true c2
    have c2b1 : decide (1048576 < l0.length) = true := decide_eq_true (by omega)
    clear c2
    obtain rfl := Option.some.inj H
    go_enter Try.func6, Try.ntmps6
    go_wp2
    go_ret
    exact ⟨by first | rfl | (simp [errW_none, errW_some] <;> rfl) | (simp [*, errW_none, errW_some] <;> rfl), by repeat (first | (with_reducible first | exact HB.out | apply below_alloc | apply pw_below_drewN | apply below_drew1) | exact HB.out)⟩
  · rw [if_neg c2] at H
    have c2b0 : decide (1048576 < (l0.length : Int)) = false := decide_eq_false c2
    have c2b1 : decide (1048576 < l0.length) = false := decide_eq_false (by omega)
    clear c2
    replace H := Option.bind_eq_some_iff.mp H
    obtain ⟨⟨t270, t271, t272, t275⟩, A30, H⟩ := H
    replace H : ((impl_LoopClues.f k t270 t271 t272 t275).bind fun t279 => ((spec_LoopClues.f k t270 t271 t272 t275).bind fun t282 => ((laws_sameInts.f k t279 t282).bind fun t285 => (if t285 = true then ((spec_LoopValid.f k t270 t271 t272 t275).bind fun t286 => (if t286 = true then (laws_FnLoopClues.l0 k t279 0 0 t270 t271 t272 t275) else (if (t279.length : Int) = 0 then ((laws_alive.f k).bind fun t287 => (some t287)) else (some false)))) else (some false))))) = some r := H
    have A3 := Aside0.mk A30
    clear A30
    replace H := Option.bind_eq_some_iff.mp H
    obtain ⟨t279, A40, H⟩ := H
    replace H : ((spec_LoopClues.f k t270 t271 t272 t275).bind fun t282 => ((laws_sameInts.f k t279 t282).bind fun t285 => (if t285 = true then ((spec_LoopValid.f k t270 t271 t272 t275).bind fun t286 => (if t286 = true then (laws_FnLoopClues.l0 k t279 0 0 t270 t271 t272 t275) else (if (t279.length : Int) = 0 then ((laws_alive.f k).bind fun t287 => (some t287)) else (some false)))) else (some false)))) = some r := H
    have A4 := Aside0.mk A40
    clear A40
    replace H := Option.bind_eq_some_iff.mp H
    obtain ⟨t282, A50, H⟩ := H
    replace H : ((laws_sameInts.f k t279 t282).bind fun t285 => (if t285 = true then ((spec_LoopValid.f k t270 t271 t272 t275).bind fun t286 => (if t286 = true then (laws_FnLoopClues.l0 k t279 0 0 t270 t271 t272 t275) else (if (t279.length : Int) = 0 then ((laws_alive.f k).bind fun t287 => (some t287)) else (some false)))) else (some false))) = some r := H
    have A5 := Aside0.mk A50
    clear A50
    replace H := Option.bind_eq_some_iff.mp H
    obtain ⟨t285, A60, H⟩ := H
    replace H : (if t285 = true then ((spec_LoopValid.f k t270 t271 t272 t275).bind fun t286 => (if t286 = true then (laws_FnLoopClues.l0 k t279 0 0 t270 t271 t272 t275) else (if (t279.length : Int) = 0 then ((laws_alive.f k).bind fun t287 => (some t287)) else (some false)))) else (some false)) = some r := H
    have A6 := Aside0.mk A60
    clear A60
    by_cases c7 : t285 = true
    · subst c7
      have H1 : ((spec_LoopValid.f k t270 t271 t272 t275).bind fun t286 => (if t286 = true then (laws_FnLoopClues.l0 k t279 0 0 t270 t271 t272 t275) else (if (t279.length : Int) = 0 then ((laws_alive.f k).bind fun t287 => (some t287)) else (some false)))) = some r := by rw [if_pos rfl] at H; exact H
      clear H
      have H := H1
      clear H1
      replace H := Option.bind_eq_some_iff.mp H
      obtain ⟨t286, A80, H⟩ := H
      replace H : (if t286 = true then (laws_FnLoopClues.l0 k t279 0 0 t270 t271 t272 t275) else (if (t279.length : Int) = 0 then ((laws_alive.f k).bind fun t287 => (some t287)) else (some false))) = some r := H
      have A8 := Aside0.mk A80
      clear A80
      by_cases c9 : t286 = true
      · subst c9
        have H1 : (laws_FnLoopClues.l0 k t279 0 0 t270 t271 t272 t275) = some r := by rw [if_pos rfl] at H; exact H
        clear H
        have H := H1
        clear H1
        have H' := Aside0.mk H
        clear H
        go_enter Try.func6, Try.ntmps6
        go_wp2_with (first | ((with_reducible refine gate_callee (f := 34) rfl ?_); refine goesL_ (some 14) rfl rfl Try.func34 (by kernel_rfl) rfl #[.slice A0 l0.length c0] rfl (by (try simp only [List.map_toArray, List.map_cons, List.map_nil]); first | done | rfl | (simp only [List.length_drop, List.length_take]; rfl)) ?_; (with_reducible refine (spec_DrawLoopClues.calls k _ _ l0 t270 t271 t272 t275 _ ?side1 ?side2 A3.out).mono ?_); (case side1 => repeat (first | exact HR0.out | (with_reducible refine Kd.C_alloc ?_ _) | (with_reducible refine Kd.C_drewN ?_ _) | (with_reducible refine Kd.C_drew ?_))); (case side2 => exact HC0.out); rintro e w10 ⟨v273, v276, rfl, ho0, ho1, hb⟩; refine ⟨_, rfl, ?_⟩; have n0_ := Aside0.mk (Kd.Q_lower ho0 (below_size (by repeat (first | (with_reducible first | exact HB.out | apply below_alloc | apply pw_below_drewN | apply below_drew1) | exact HB.out)))); have n1_ := Aside0.mk (Kd.S_lower ho1 (below_size (by repeat (first | (with_reducible first | exact HB.out | apply below_alloc | apply pw_below_drewN | apply below_drew1) | exact HB.out)))); have n2_ := Aside0.mk (below_step (by repeat (first | (with_reducible first | exact HB.out | apply below_alloc | apply pw_below_drewN | apply below_drew1) | exact HB.out)) hb); clear HB; have HO274 := n0_; have HO277 := n1_; have HB := n2_; clear n0_ n1_ n2_; (try clear hb); (try clear hb2); (try clear hk); (try clear hi); (try clear ho0); (try clear ho1)) | ((with_reducible refine gate_dst (N := 3) rfl ?_); refine box_event ?hg (N := 3) ?hd (cs := #[.int .i64 0, .int .i64 0, .slice none 0 0, .slice none 0 0]) (t := 27) ?hr ?_; (case hd => rfl); (case hg => rfl); (case hr => first | (go_simp; done) | (go_simp; rfl)); intro gb278 hg w11 hbox hb; have n0_ := Aside0.mk (Kd.Q_below (by (with_reducible repeat (first | apply Kd.Q_alloc | apply Kd.Q_drewN | apply Kd.Q_drew)); exact HO274.out) hb); have n1_ := Aside0.mk (Kd.S_below (by (with_reducible repeat (first | apply Kd.S_alloc | apply Kd.S_drewN | apply Kd.S_drew)); exact HO277.out) hb); have n2_ := Aside0.mk (below_step (by repeat (first | (with_reducible first | exact HB.out | apply below_alloc | apply pw_below_drewN | apply below_drew1) | exact HB.out)) hb); have n3_ := Aside0.mk (hbox); have n4_ := Aside0.mk ((by rw [hg]; exact (below_size (by repeat (first | (with_reducible first | exact HB.out | apply below_alloc | apply pw_below_drewN | apply below_drew1) | exact HB.out))) : w.heap.size ≤ gb278)); have n5_ := Aside0.mk ((by rw [hg]; exact (below_size (by repeat (first | (with_reducible first | exact HB.out | apply below_alloc | apply pw_below_drewN | apply below_drew1) | exact HB.out))) : w.heap.size ≤ gb278)); clear HO274; clear HO277; clear HB; have HO274 := n0_; have HO277 := n1_; have HB := n2_; have BK278 := n3_; have GW278 := n4_; have GE278 := n5_; clear n0_ n1_ n2_ n3_ n4_ n5_; clear hb hbox hg; have hcz12_0 : w11.cell? ⟨gb278, 0, none⟩ = some (.int .i64 0) := (blk_cell BK278.out 0).trans rfl; have hcz12_1 : w11.cell? ⟨gb278, 1, none⟩ = some (.int .i64 0) := (blk_cell BK278.out 1).trans rfl; have hcz12_2 : w11.cell? ⟨gb278, 2, none⟩ = some (.slice none 0 0) := (blk_cell BK278.out 2).trans rfl; have hcz12_3 : w11.cell? ⟨gb278, 3, none⟩ = some (.slice none 0 0) := (blk_cell BK278.out 3).trans rfl; have hfz12_0 := blk_frozen BK278.out 0; have hfz12_1 := blk_frozen BK278.out 1; have hfz12_2 := blk_frozen BK278.out 2; have hfz12_3 := blk_frozen BK278.out 3; obtain ⟨Ao13, co13, eo13, _⟩ := Kd.Q_slice HO274.out; subst eo13; obtain ⟨Ao14, co14, eo14⟩ := Kd.S_slice HO277.out; subst eo14) | ((with_reducible refine gate_callee (f := 29) rfl ?_); refine goesL_ (some 16) rfl rfl Try.func29 (by kernel_rfl) rfl #[.agg #[.int .i64 t270, .int .i64 t271, .slice Ao13 t272.length co13, .slice Ao14 t275.length co14]] rfl (by (try simp only [List.map_toArray, List.map_cons, List.map_nil]); first | done | rfl | (simp only [List.length_drop, List.length_take]; rfl)) ?_; (with_reducible refine (impl_LoopClues.calls k t270 t271 _ _ t272 _ _ t275 t279 _ ?side1 ?side2 ?side3 ?side4 A4.out).mono ?_); (case side1 => refine (Kd.Q_reads' (e := 45) (base := w.heap.size) (ok := fun k_ => some k_ ≠ (.slice Ao14 t275.length co14 : Value).ownBlock) (n := t272.length) (c := co13) ?_).2.2; exact (by (with_reducible repeat (first | apply Kd.Q_alloc | apply Kd.Q_drewN | apply Kd.Q_drew)); exact (Kd.Q_mono (Kd.Q_far (p := ⟨gb278, 3, none⟩) (Kd.Q_far (p := ⟨gb278, 2, none⟩) (Kd.Q_far (p := ⟨gb278, 1, none⟩) (Kd.Q_far (p := ⟨gb278, 0, none⟩) (Kd.Q_types HO274.out BK278.out (by decide)) (fun _ hk => hk.2) (.int .i64 t270)) (fun _ hk => hk.2) (.int .i64 t271)) (fun _ hk => hk.2) (.slice Ao13 t272.length co13)) (fun _ hk => hk.2) (.slice Ao14 t275.length co14)) (fun _ h_ => h_.1)))); (case side2 => exact (Kd.Q_reads' HO274.out).2.1); (case side3 => refine (Kd.S_reads' (e := 45) (base := w.heap.size) (ok := fun k_ => some k_ ≠ (.slice Ao13 t272.length co13 : Value).ownBlock) (n := t275.length) (c := co14) ?_).2.2; exact (by (with_reducible repeat (first | apply Kd.S_alloc | apply Kd.S_drewN | apply Kd.S_drew)); exact (Kd.S_mono (Kd.S_far (p := ⟨gb278, 3, none⟩) (Kd.S_far (p := ⟨gb278, 2, none⟩) (Kd.S_far (p := ⟨gb278, 1, none⟩) (Kd.S_far (p := ⟨gb278, 0, none⟩) (Kd.S_types HO277.out BK278.out (by decide)) (fun _ hk => hk.2) (.int .i64 t270)) (fun _ hk => hk.2) (.int .i64 t271)) (fun _ hk => hk.2) (.slice Ao13 t272.length co13)) (fun _ hk => hk.2) (.slice Ao14 t275.length co14)) (fun _ h_ => h_.1)))); (case side4 => exact (Kd.S_reads' HO277.out).2.1); rintro e w15 ⟨v280, rfl, ho0, hb⟩; refine ⟨_, rfl, ?_⟩; have n0_ := Aside0.mk (Kd.Q_below (by (with_reducible repeat (first | apply Kd.Q_alloc | apply Kd.Q_drewN | apply Kd.Q_drew)); exact (Kd.Q_mono (Kd.Q_far (p := ⟨gb278, 3, none⟩) (Kd.Q_far (p := ⟨gb278, 2, none⟩) (Kd.Q_far (p := ⟨gb278, 1, none⟩) (Kd.Q_far (p := ⟨gb278, 0, none⟩) (Kd.Q_types HO274.out BK278.out (by decide)) (fun _ hk => hk.2) (.int .i64 t270)) (fun _ hk => hk.2) (.int .i64 t271)) (fun _ hk => hk.2) (.slice Ao13 t272.length co13)) (fun _ hk => hk.2) (.slice Ao14 t275.length co14)) (fun _ h_ => h_.1))) hb); have n1_ := Aside0.mk (Kd.S_below (by (with_reducible repeat (first | apply Kd.S_alloc | apply Kd.S_drewN | apply Kd.S_drew)); exact (Kd.S_mono (Kd.S_far (p := ⟨gb278, 3, none⟩) (Kd.S_far (p := ⟨gb278, 2, none⟩) (Kd.S_far (p := ⟨gb278, 1, none⟩) (Kd.S_far (p := ⟨gb278, 0, none⟩) (Kd.S_types HO277.out BK278.out (by decide)) (fun _ hk => hk.2) (.int .i64 t270)) (fun _ hk => hk.2) (.int .i64 t271)) (fun _ hk => hk.2) (.slice Ao13 t272.length co13)) (fun _ hk => hk.2) (.slice Ao14 t275.length co14)) (fun _ h_ => h_.1))) hb); have n2_ := Aside0.mk (Kd.R_lower ho0 (below_size (by repeat (first | (with_reducible first | exact HB.out | apply below_alloc | apply pw_below_drewN | apply below_drew1 | refine below_set ?_ GE278.out) | exact HB.out)))); have n3_ := Aside0.mk (blk_below (g := gb278) (o := .cells #[.int .i64 t270, .int .i64 t271, .slice Ao13 t272.length co13, .slice Ao14 t275.length co14] 27 (0, 0)) (by (with_reducible repeat (first | refine blk_drewN ?_ _ | refine blk_drew ?_ | refine blk_alloc ?_ _)); refine blk_put (cs := #[.int .i64 t270, .int .i64 t271, .slice Ao13 t272.length co13, .slice none 0 0]) ?_ 3 _ rfl; (with_reducible repeat (first | refine blk_drewN ?_ _ | refine blk_drew ?_ | refine blk_alloc ?_ _)); refine blk_put (cs := #[.int .i64 t270, .int .i64 t271, .slice none 0 0, .slice none 0 0]) ?_ 2 _ rfl; (with_reducible repeat (first | refine blk_drewN ?_ _ | refine blk_drew ?_ | refine blk_alloc ?_ _)); refine blk_put (cs := #[.int .i64 t270, .int .i64 0, .slice none 0 0, .slice none 0 0]) ?_ 1 _ rfl; (with_reducible repeat (first | refine blk_drewN ?_ _ | refine blk_drew ?_ | refine blk_alloc ?_ _)); refine blk_put (cs := #[.int .i64 0, .int .i64 0, .slice none 0 0, .slice none 0 0]) ?_ 0 _ rfl; (with_reducible repeat (first | refine blk_drewN ?_ _ | refine blk_drew ?_ | refine blk_alloc ?_ _)); exact BK278.out) hb); have n4_ := Aside0.mk (below_step (by repeat (first | (with_reducible first | exact HB.out | apply below_alloc | apply pw_below_drewN | apply below_drew1 | refine below_set ?_ GE278.out) | exact HB.out)) hb); clear HO274; clear HO277; clear BK278; clear HB; have HO274 := n0_; have HO277 := n1_; have HO281 := n2_; have BK278 := n3_; have HB := n4_; clear n0_ n1_ n2_ n3_ n4_; (try clear hb); (try clear hb2); (try clear hk); (try clear hi); (try clear ho0); have hcz16_0 : w15.cell? ⟨gb278, 0, none⟩ = some (.int .i64 t270) := (blk_cell BK278.out 0).trans rfl; have hcz16_1 : w15.cell? ⟨gb278, 1, none⟩ = some (.int .i64 t271) := (blk_cell BK278.out 1).trans rfl; have hcz16_2 : w15.cell? ⟨gb278, 2, none⟩ = some (.slice Ao13 t272.length co13) := (blk_cell BK278.out 2).trans rfl; have hcz16_3 : w15.cell? ⟨gb278, 3, none⟩ = some (.slice Ao14 t275.length co14) := (blk_cell BK278.out 3).trans rfl; have hfz16_0 := blk_frozen BK278.out 0; have hfz16_1 := blk_frozen BK278.out 1; have hfz16_2 := blk_frozen BK278.out 2; have hfz16_3 := blk_frozen BK278.out 3) | ((with_reducible refine gate_callee (f := 28) rfl ?_); refine goesL_ (some 19) rfl rfl Try.func28 (by kernel_rfl) rfl #[.agg #[.int .i64 t270, .int .i64 t271, .slice Ao13 t272.length co13, .slice Ao14 t275.length co14]] rfl (by (try simp only [List.map_toArray, List.map_cons, List.map_nil]); first | done | rfl | (simp only [List.length_drop, List.length_take]; rfl)) ?_; (with_reducible refine (spec_LoopClues.calls k t270 t271 _ _ t272 _ _ t275 t282 _ ?side1 ?side2 ?side3 ?side4 A5.out).mono ?_); (case side1 => repeat (first | exact (Kd.Q_reads' HO274.out).2.2 | (with_reducible refine Kd.C_alloc ?_ _) | (with_reducible refine Kd.C_drewN ?_ _) | (with_reducible refine Kd.C_drew ?_))); (case side2 => exact (Kd.Q_reads' HO274.out).2.1); (case side3 => repeat (first | exact (Kd.S_reads' HO277.out).2.2 | (with_reducible refine Kd.C_alloc ?_ _) | (with_reducible refine Kd.C_drewN ?_ _) | (with_reducible refine Kd.C_drew ?_))); (case side4 => exact (Kd.S_reads' HO277.out).2.1); rintro e w17 ⟨v283, rfl, ho0, hb⟩; refine ⟨_, rfl, ?_⟩; have n0_ := Aside0.mk (Kd.Q_below (by (with_reducible repeat (first | apply Kd.Q_alloc | apply Kd.Q_drewN | apply Kd.Q_drew)); exact HO274.out) hb); have n1_ := Aside0.mk (Kd.S_below (by (with_reducible repeat (first | apply Kd.S_alloc | apply Kd.S_drewN | apply Kd.S_drew)); exact HO277.out) hb); have n2_ := Aside0.mk (Kd.R_elder' (by (with_reducible repeat (first | apply Kd.R_alloc | apply Kd.R_drewN | apply Kd.R_drew)); exact HO281.out) (Kd.R_base ho0) hb); have n3_ := Aside0.mk (Kd.R_lower (Kd.R_new' ho0 (Kd.R_lt (by (with_reducible repeat (first | apply Kd.R_alloc | apply Kd.R_drewN | apply Kd.R_drew)); exact HO281.out))) (below_size (by repeat (first | (with_reducible first | exact HB.out | apply below_alloc | apply pw_below_drewN | apply below_drew1 | refine below_set ?_ GE278.out) | exact HB.out)))); have n4_ := Aside0.mk (blk_below (g := gb278) (o := .cells #[.int .i64 t270, .int .i64 t271, .slice Ao13 t272.length co13, .slice Ao14 t275.length co14] 27 (0, 0)) (by (with_reducible repeat (first | refine blk_drewN ?_ _ | refine blk_drew ?_ | refine blk_alloc ?_ _)); exact BK278.out) hb); have n5_ := Aside0.mk (below_step (by repeat (first | (with_reducible first | exact HB.out | apply below_alloc | apply pw_below_drewN | apply below_drew1 | refine below_set ?_ GE278.out) | exact HB.out)) hb); clear HO274; clear HO277; clear HO281; clear BK278; clear HB; have HO274 := n0_; have HO277 := n1_; have HO281 := n2_; have HO284 := n3_; have BK278 := n4_; have HB := n5_; clear n0_ n1_ n2_ n3_ n4_ n5_; (try clear hb); (try clear hb2); (try clear hk); (try clear hi); (try clear ho0); obtain ⟨Ao18, co18, eo18⟩ := Kd.R_slice HO281.out; subst eo18; obtain ⟨Ao19, co19, eo19⟩ := Kd.R_slice HO284.out; subst eo19) | ((with_reducible refine gate_callee (f := 35) rfl ?_); refine goesL_ (some 20) rfl rfl Try.func35 (by kernel_rfl) rfl #[.slice Ao18 t279.length co18, .slice Ao19 t282.length co19] rfl (by (try simp only [List.map_toArray, List.map_cons, List.map_nil]); first | done | rfl | (simp only [List.length_drop, List.length_take]; rfl)) ?_; (with_reducible refine (laws_sameInts.calls k _ _ t279 _ _ t282 true _ ?side1 ?side2 ?side3 ?side4 A6.out).mono ?_); (case side1 => repeat (first | exact (Kd.R_reads' HO281.out).2.2 | (with_reducible refine Kd.C_alloc ?_ _) | (with_reducible refine Kd.C_drewN ?_ _) | (with_reducible refine Kd.C_drew ?_))); (case side2 => exact (Kd.R_reads' HO281.out).2.1); (case side3 => repeat (first | exact (Kd.R_reads' HO284.out).2.2 | (with_reducible refine Kd.C_alloc ?_ _) | (with_reducible refine Kd.C_drewN ?_ _) | (with_reducible refine Kd.C_drew ?_))); (case side4 => exact (Kd.R_reads' HO284.out).2.1); rintro e w' ⟨rfl, ⟨nd, rfl⟩⟩; refine ⟨_, rfl, ?_⟩; have hcz20_0 : w17.cell? ⟨gb278, 0, none⟩ = some (.int .i64 t270) := (blk_cell BK278.out 0).trans rfl; have hcz20_1 : w17.cell? ⟨gb278, 1, none⟩ = some (.int .i64 t271) := (blk_cell BK278.out 1).trans rfl; have hcz20_2 : w17.cell? ⟨gb278, 2, none⟩ = some (.slice Ao13 t272.length co13) := (blk_cell BK278.out 2).trans rfl; have hcz20_3 : w17.cell? ⟨gb278, 3, none⟩ = some (.slice Ao14 t275.length co14) := (blk_cell BK278.out 3).trans rfl; have hfz20_0 := blk_frozen BK278.out 0; have hfz20_1 := blk_frozen BK278.out 1; have hfz20_2 := blk_frozen BK278.out 2; have hfz20_3 := blk_frozen BK278.out 3) | ((with_reducible refine gate_callee (f := 36) rfl ?_); refine goesL_ (some 23) rfl rfl Try.func36 (by kernel_rfl) rfl #[.agg #[.int .i64 t270, .int .i64 t271, .slice Ao13 t272.length co13, .slice Ao14 t275.length co14]] rfl (by (try simp only [List.map_toArray, List.map_cons, List.map_nil]); first | done | rfl | (simp only [List.length_drop, List.length_take]; rfl)) ?_; (with_reducible refine (spec_LoopValid.calls k t270 t271 _ _ t272 _ _ t275 true _ ?side1 ?side2 ?side3 ?side4 A8.out).mono ?_); (case side1 => repeat (first | exact (Kd.Q_reads' HO274.out).2.2 | (with_reducible refine Kd.C_alloc ?_ _) | (with_reducible refine Kd.C_drewN ?_ _) | (with_reducible refine Kd.C_drew ?_))); (case side2 => exact (Kd.Q_reads' HO274.out).2.1); (case side3 => repeat (first | exact (Kd.S_reads' HO277.out).2.2 | (with_reducible refine Kd.C_alloc ?_ _) | (with_reducible refine Kd.C_drewN ?_ _) | (with_reducible refine Kd.C_drew ?_))); (case side4 => exact (Kd.S_reads' HO277.out).2.1); rintro e w21 ⟨rfl, hb⟩; refine ⟨_, rfl, ?_⟩; have n0_ := Aside0.mk (Kd.Q_below (by (with_reducible repeat (first | apply Kd.Q_alloc | apply Kd.Q_drewN | apply Kd.Q_drew)); exact HO274.out) hb); have n1_ := Aside0.mk (Kd.S_below (by (with_reducible repeat (first | apply Kd.S_alloc | apply Kd.S_drewN | apply Kd.S_drew)); exact HO277.out) hb); have n2_ := Aside0.mk (Kd.R_below (by (with_reducible repeat (first | apply Kd.R_alloc | apply Kd.R_drewN | apply Kd.R_drew)); exact HO281.out) hb); have n3_ := Aside0.mk (Kd.R_below (by (with_reducible repeat (first | apply Kd.R_alloc | apply Kd.R_drewN | apply Kd.R_drew)); exact HO284.out) hb); have n4_ := Aside0.mk (blk_below (g := gb278) (o := .cells #[.int .i64 t270, .int .i64 t271, .slice Ao13 t272.length co13, .slice Ao14 t275.length co14] 27 (0, 0)) (by (with_reducible repeat (first | refine blk_drewN ?_ _ | refine blk_drew ?_ | refine blk_alloc ?_ _)); exact BK278.out) hb); have n5_ := Aside0.mk (below_step (by repeat (first | (with_reducible first | exact HB.out | apply below_alloc | apply pw_below_drewN | apply below_drew1 | refine below_set ?_ GE278.out) | exact HB.out)) hb); clear HO274; clear HO277; clear HO281; clear HO284; clear BK278; clear HB; have HO274 := n0_; have HO277 := n1_; have HO281 := n2_; have HO284 := n3_; have BK278 := n4_; have HB := n5_; clear n0_ n1_ n2_ n3_ n4_ n5_; (try clear hb); (try clear hb2); (try clear hk); (try clear hi)))
        go_loopg [5, 6] k (fun kq v5 v6 w' => ∃ (x5_1 : Int) (x6_1 : Int), v5 = .int .i64 x5_1 ∧ v6 = .int .i64 x6_1 ∧ Aside0 (laws_FnLoopClues.l0 kq t279 x5_1 x6_1 t270 t271 t272 t275 = some r) ∧ Aside0 (kq ≤ k) ∧ Aside0 (Kd.R (Kd.int .i64) 3 w' w.heap.size (fun _ => True) (.slice Ao18 t279.length co18) t279) ∧ Aside0 (Kd.Q (Kd.slice 4 Kd.bool) 45 w' w.heap.size (fun k_ => some k_ ≠ ((.slice Ao14 t275.length co14) : Value).ownBlock) (.slice Ao13 t272.length co13) t272) ∧ Aside0 (Kd.S (Kd.slice 4 Kd.bool) 45 w' w.heap.size (fun k_ => some k_ ≠ ((.slice Ao13 t272.length co13) : Value).ownBlock) (.slice Ao14 t275.length co14) t275) ∧ Aside0 (w'.heap[gb278]? = some (.cells #[.int .i64 t270, .int .i64 t271, (.slice Ao13 t272.length co13), (.slice Ao14 t275.length co14)] 27 (0, 0))) ∧ Aside0 (Below w.heap.size w w'))
        case atStart => exact ⟨(0), (0), (by first | rfl | (simp; done) | (simp [*]; done)), (by first | rfl | (simp; done) | (simp [*]; done)), H', ⟨Nat.le_refl _⟩, ⟨by (with_reducible repeat (first | apply Kd.R_alloc | apply Kd.R_drewN | apply Kd.R_drew)); exact Kd.R_mono HO281.out (fun _ hk => trivial)⟩, ⟨by (with_reducible repeat (first | apply Kd.Q_alloc | apply Kd.Q_drewN | apply Kd.Q_drew)); exact HO274.out⟩, ⟨by (with_reducible repeat (first | apply Kd.S_alloc | apply Kd.S_drewN | apply Kd.S_drew)); exact HO277.out⟩, ⟨by (with_reducible repeat (first | refine blk_drewN ?_ _ | refine blk_drew ?_ | refine blk_alloc ?_ _)); exact BK278.out⟩, ⟨by repeat (first | (with_reducible first | exact HB.out | apply below_alloc | apply pw_below_drewN | apply below_drew1 | refine below_set ?_ GE278.out) | exact HB.out)⟩⟩
        case round =>
          clear H'
          try clear c2
          try clear c2b0
          try clear c2b1
          try clear p2
          try clear c3
          try clear c6
          try clear c7
          try clear c9
          try clear hcz12_0
          try clear hcz12_1
          try clear hcz12_2
          try clear hcz12_3
          try clear hcz16_0
          try clear hcz16_1
          try clear hcz16_2
          try clear hcz16_3
          try clear hcz20_0
          try clear hcz20_1
          try clear hcz20_2
          try clear hcz20_3
          try clear hfz12_0
          try clear hfz12_1
          try clear hfz12_2
          try clear hfz12_3
          try clear hfz16_0
          try clear hfz16_1
          try clear hfz16_2
          try clear hfz16_3
          try clear hfz20_0
          try clear hfz20_1
          try clear hfz20_2
          try clear hfz20_3
          obtain ⟨x5_1, x6_1, rfl, rfl, HA, HK1, HO_4, HO_279002, HO_279003, BK278, HB⟩ := hrel
          cases gk with
          | zero => exact absurd HA.out (by simp [laws_FnLoopClues.l0])
          | succ k1 =>
            have H := HA.out
            clear HA
            simp only [laws_FnLoopClues.l0] at H
            by_cases c22 : x6_1 < (t279.length : Int)
            · rw [if_pos c22] at H
              have c22b0 : decide (x6_1 < (t279.length : Int)) = true := decide_eq_true c22
              clear c22
              by_cases c23 : 0 ≤ x6_1
              · rw [if_pos c23] at H
                have c23b0 : decide (0 ≤ x6_1) = true := decide_eq_true c23
                clear c23
                by_cases c24 : (rd t279 x6_1) < 0
                · rw [if_pos c24] at H
                  have c24b0 : decide ((rd t279 x6_1) < 0) = true := decide_eq_true c24
                  clear c24
                  obtain rfl := Option.some.inj H
                  have p288 : 0 ≤ (x6_1 : Int) := of_decide_eq_true (by first | (with_reducible assumption) | assumption)
                  have q288 : x6_1 < (t279.length : Int) := of_decide_eq_true (by first | (with_reducible assumption) | assumption)
                  obtain ⟨ad288, e288, hx288_0⟩ := Kd.at_int (Kd.R_reads' HO_4.out).2.2 x6_1 p288 q288
                  cases e288
                  replace p288 := eq_true p288
                  replace q288 := eq_true q288
                  go_wp2
                  go_ret
                  exact ⟨by first | rfl | (simp [errW_none, errW_some] <;> rfl) | (simp [*, errW_none, errW_some] <;> rfl), by repeat (first | (with_reducible first | exact HB.out | apply below_alloc | apply pw_below_drewN | apply below_drew1 | refine below_set ?_ GE278.out) | exact HB.out)⟩
                · rw [if_neg c24] at H
                  have c24b0 : decide ((rd t279 x6_1) < 0) = false := decide_eq_false c24
                  clear c24
                  by_cases c25 : (rd t279 x6_1) > 4
                  · rw [if_pos c25] at H
                    have c25b0 : decide (4 < (rd t279 x6_1)) = true := decide_eq_true c25
                    clear c25
                    obtain rfl := Option.some.inj H
                    have p288 : 0 ≤ (x6_1 : Int) := of_decide_eq_true (by first | (with_reducible assumption) | assumption)
                    have q288 : x6_1 < (t279.length : Int) := of_decide_eq_true (by first | (with_reducible assumption) | assumption)
                    obtain ⟨ad288, e288, hx288_0⟩ := Kd.at_int (Kd.R_reads' HO_4.out).2.2 x6_1 p288 q288
                    cases e288
                    replace p288 := eq_true p288
                    replace q288 := eq_true q288
                    have p289 : 0 ≤ (x6_1 : Int) := of_decide_eq_true (by first | (with_reducible assumption) | assumption)
                    have q289 : x6_1 < (t279.length : Int) := of_decide_eq_true (by first | (with_reducible assumption) | assumption)
                    obtain ⟨ad289, e289, hx289_0⟩ := Kd.at_int (Kd.R_reads' HO_4.out).2.2 x6_1 p289 q289
                    obtain rfl : ad288 = ad289 := (by injection e289)
                    replace p289 := eq_true p289
                    replace q289 := eq_true q289
                    go_wp2
                    go_ret
                    exact ⟨by first | rfl | (simp [errW_none, errW_some] <;> rfl) | (simp [*, errW_none, errW_some] <;> rfl), by repeat (first | (with_reducible first | exact HB.out | apply below_alloc | apply pw_below_drewN | apply below_drew1 | refine below_set ?_ GE278.out) | exact HB.out)⟩
                  · rw [if_neg c25] at H
                    have c25b0 : decide (4 < (rd t279 x6_1)) = false := decide_eq_false c25
                    clear c25
                    have H' := Aside0.mk H
                    clear H
                    have p288 : 0 ≤ (x6_1 : Int) := of_decide_eq_true (by first | (with_reducible assumption) | assumption)
                    have q288 : x6_1 < (t279.length : Int) := of_decide_eq_true (by first | (with_reducible assumption) | assumption)
                    obtain ⟨ad288, e288, hx288_0⟩ := Kd.at_int (Kd.R_reads' HO_4.out).2.2 x6_1 p288 q288
                    cases e288
                    replace p288 := eq_true p288
                    replace q288 := eq_true q288
                    have p289 : 0 ≤ (x6_1 : Int) := of_decide_eq_true (by first | (with_reducible assumption) | assumption)
                    have q289 : x6_1 < (t279.length : Int) := of_decide_eq_true (by first | (with_reducible assumption) | assumption)
                    obtain ⟨ad289, e289, hx289_0⟩ := Kd.at_int (Kd.R_reads' HO_4.out).2.2 x6_1 p289 q289
                    obtain rfl : ad288 = ad289 := (by injection e289)
                    replace p289 := eq_true p289
                    replace q289 := eq_true q289
                    have p290 : 0 ≤ (x6_1 : Int) := of_decide_eq_true (by first | (with_reducible assumption) | assumption)
                    have q290 : x6_1 < (t279.length : Int) := of_decide_eq_true (by first | (with_reducible assumption) | assumption)
                    obtain ⟨ad290, e290, hx290_0⟩ := Kd.at_int (Kd.R_reads' HO_4.out).2.2 x6_1 p290 q290
                    obtain rfl : ad288 = ad290 := (by injection e290)
                    replace p290 := eq_true p290
                    replace q290 := eq_true q290
                    go_wp2
                    go_roundg k1
                    case measure => have := HK1.out; omega
                    case rel => exact ⟨(wrap64 (x5_1 + (rd t279 x6_1))), (wrap64 (x6_1 + 1)), (by first | rfl | (simp; done) | (simp [*]; done)), (by first | rfl | (simp; done) | (simp [*]; done)), H', ⟨by have := HK1.out; omega⟩, ⟨by (with_reducible repeat (first | apply Kd.R_alloc | apply Kd.R_drewN | apply Kd.R_drew)); exact HO_4.out⟩, ⟨by (with_reducible repeat (first | apply Kd.Q_alloc | apply Kd.Q_drewN | apply Kd.Q_drew)); exact HO_279002.out⟩, ⟨by (with_reducible repeat (first | apply Kd.S_alloc | apply Kd.S_drewN | apply Kd.S_drew)); exact HO_279003.out⟩, ⟨by (with_reducible repeat (first | refine blk_drewN ?_ _ | refine blk_drew ?_ | refine blk_alloc ?_ _)); exact BK278.out⟩, ⟨by repeat (first | (with_reducible first | exact HB.out | apply below_alloc | apply pw_below_drewN | apply below_drew1 | refine below_set ?_ GE278.out) | exact HB.out)⟩⟩
              · rw [if_neg c23] at H
                exact absurd H (by simp)
            · rw [if_neg c22] at H
              have c22b0 : decide (x6_1 < (t279.length : Int)) = false := decide_eq_false c22
              clear c22
              have H' := Aside0.mk H
              clear H
              go_wp2
              go_loopg [7, 8] k1 (fun kq v7 v8 w' => ∃ (x7_2 : Int) (x8_2 : Int), v7 = .int .i64 x7_2 ∧ v8 = .int .i64 x8_2 ∧ Aside0 (laws_FnLoopClues.l1 kq t279 x5_1 x7_2 x8_2 t270 t271 t272 t275 = some r) ∧ Aside0 (kq ≤ k1) ∧ Aside0 (Kd.R (Kd.int .i64) 3 w' w.heap.size (fun _ => True) (.slice Ao18 t279.length co18) t279) ∧ Aside0 (Kd.Q (Kd.slice 4 Kd.bool) 45 w' w.heap.size (fun k_ => some k_ ≠ ((.slice Ao14 t275.length co14) : Value).ownBlock) (.slice Ao13 t272.length co13) t272) ∧ Aside0 (Kd.S (Kd.slice 4 Kd.bool) 45 w' w.heap.size (fun k_ => some k_ ≠ ((.slice Ao13 t272.length co13) : Value).ownBlock) (.slice Ao14 t275.length co14) t275) ∧ Aside0 (w'.heap[gb278]? = some (.cells #[.int .i64 t270, .int .i64 t271, (.slice Ao13 t272.length co13), (.slice Ao14 t275.length co14)] 27 (0, 0))) ∧ Aside0 (Below w.heap.size w w'))
              case atStart => exact ⟨(0), (0), (by first | rfl | (simp; done) | (simp [*]; done)), (by first | rfl | (simp; done) | (simp [*]; done)), H', ⟨Nat.le_refl _⟩, ⟨by (with_reducible repeat (first | apply Kd.R_alloc | apply Kd.R_drewN | apply Kd.R_drew)); exact HO_4.out⟩, ⟨by (with_reducible repeat (first | apply Kd.Q_alloc | apply Kd.Q_drewN | apply Kd.Q_drew)); exact HO_279002.out⟩, ⟨by (with_reducible repeat (first | apply Kd.S_alloc | apply Kd.S_drewN | apply Kd.S_drew)); exact HO_279003.out⟩, ⟨by (with_reducible repeat (first | refine blk_drewN ?_ _ | refine blk_drew ?_ | refine blk_alloc ?_ _)); exact BK278.out⟩, ⟨by repeat (first | (with_reducible first | exact HB.out | apply below_alloc | apply pw_below_drewN | apply below_drew1 | refine below_set ?_ GE278.out) | exact HB.out)⟩⟩
              case round =>
                clear H'
                try clear c2
                try clear c2b0
                try clear c2b1
                try clear p2
                try clear q2
                try clear hx2
                try clear c3
                try clear c6
                try clear p6
                try clear c7
                try clear c9
                try clear c22
                try clear c22b0
                try clear c23
                try clear c23b0
                try clear c24
                try clear c24b0
                try clear c25
                try clear c25b0
                try clear hcz12_0
                try clear hcz12_1
                try clear hcz12_2
                try clear hcz12_3
                try clear hcz16_0
                try clear hcz16_1
                try clear hcz16_2
                try clear hcz16_3
                try clear hcz20_0
                try clear hcz20_1
                try clear hcz20_2
                try clear hcz20_3
                try clear hfz12_0
                try clear hfz12_1
                try clear hfz12_2
                try clear hfz12_3
                try clear hfz16_0
                try clear hfz16_1
                try clear hfz16_2
                try clear hfz16_3
                try clear hfz20_0
                try clear hfz20_1
                try clear hfz20_2
                try clear hfz20_3
                try clear hx288_0
                try clear hx289_0
                try clear hx290_0
                try clear p2
                try clear p288
                try clear p289
                try clear p290
                try clear q288
                try clear q289
                try clear q290
                obtain ⟨x7_2, x8_2, rfl, rfl, HA, HK2, HO_4, HO_279002, HO_279003, BK278, HB⟩ := hrel
                cases gk with
                | zero => exact absurd HA.out (by simp [laws_FnLoopClues.l1])
                | succ k2 =>
                  have H := HA.out
                  clear HA
                  simp only [laws_FnLoopClues.l1] at H
                  by_cases c26 : x8_2 < t271
                  · rw [if_pos c26] at H
                    have c26b0 : decide (x8_2 < t271) = true := decide_eq_true c26
                    clear c26
                    by_cases c27 : 0 < (t272.length : Int)
                    · rw [if_pos c27] at H
                      have c27b0 : decide (0 < (t272.length : Int)) = true := decide_eq_true c27
                      have c27b1 : decide (0 < t272.length) = true := decide_eq_true (by omega)
                      clear c27
                      by_cases c28 : 0 ≤ x8_2
                      · rw [if_pos c28] at H
                        have c28b0 : decide (0 ≤ x8_2) = true := decide_eq_true c28
                        clear c28
                        by_cases c29 : x8_2 < ((rd_L1 t272 0).length : Int)
                        · rw [if_pos c29] at H
                          have c29b0 : decide (x8_2 < ((rd_L1 t272 0).length : Int)) = true := decide_eq_true c29
                          clear c29
                          obtain ⟨bq30, hbq30⟩ : ∃ b_ : Bool, b_ = (rdOf false (rd_L1 t272 0) x8_2) := ⟨_, rfl⟩
                          replace H : (if bq30 = true then (if 0 ≤ t270 then (if t270 < (t272.length : Int) then (if x8_2 < ((rd_L1 t272 t270).length : Int) then (if rdOf false (rd_L1 t272 t270) x8_2 = true then (laws_FnLoopClues.l1 k2 t279 x5_1 (wrap64 ((wrap64 (x7_2 + 1)) + 1)) (wrap64 (x8_2 + 1)) t270 t271 t272 t275) else (laws_FnLoopClues.l1 k2 t279 x5_1 (wrap64 (x7_2 + 1)) (wrap64 (x8_2 + 1)) t270 t271 t272 t275)) else (none)) else (none)) else (none)) else (if 0 ≤ t270 then (if t270 < (t272.length : Int) then (if x8_2 < ((rd_L1 t272 t270).length : Int) then (if rdOf false (rd_L1 t272 t270) x8_2 = true then (laws_FnLoopClues.l1 k2 t279 x5_1 (wrap64 (x7_2 + 1)) (wrap64 (x8_2 + 1)) t270 t271 t272 t275) else (laws_FnLoopClues.l1 k2 t279 x5_1 x7_2 (wrap64 (x8_2 + 1)) t270 t271 t272 t275)) else (none)) else (none)) else (none))) = some r := by rw [← hbq30] at H; exact H
                          have Nbq30 := Aside0.mk hbq30
                          clear hbq30
                          by_cases c31 : bq30 = true
                          · subst c31
                            have H1 : (if 0 ≤ t270 then (if t270 < (t272.length : Int) then (if x8_2 < ((rd_L1 t272 t270).length : Int) then (if rdOf false (rd_L1 t272 t270) x8_2 = true then (laws_FnLoopClues.l1 k2 t279 x5_1 (wrap64 ((wrap64 (x7_2 + 1)) + 1)) (wrap64 (x8_2 + 1)) t270 t271 t272 t275) else (laws_FnLoopClues.l1 k2 t279 x5_1 (wrap64 (x7_2 + 1)) (wrap64 (x8_2 + 1)) t270 t271 t272 t275)) else (none)) else (none)) else (none)) = some r := by rw [if_pos rfl] at H; exact H
                            clear H
                            have H := H1
                            clear H1
                            by_cases c32 : 0 ≤ t270
                            · rw [if_pos c32] at H
                              have c32b0 : decide (0 ≤ t270) = true := decide_eq_true c32
                              clear c32
                              by_cases c33 : t270 < (t272.length : Int)
                              · rw [if_pos c33] at H
                                have c33b0 : decide (t270 < (t272.length : Int)) = true := decide_eq_true c33
                                clear c33
                                by_cases c34 : x8_2 < ((rd_L1 t272 t270).length : Int)
                                · rw [if_pos c34] at H
                                  have c34b0 : decide (x8_2 < ((rd_L1 t272 t270).length : Int)) = true := decide_eq_true c34
                                  clear c34
                                  obtain ⟨bq35, hbq35⟩ : ∃ b_ : Bool, b_ = (rdOf false (rd_L1 t272 t270) x8_2) := ⟨_, rfl⟩
                                  replace H : (if bq35 = true then (laws_FnLoopClues.l1 k2 t279 x5_1 (wrap64 ((wrap64 (x7_2 + 1)) + 1)) (wrap64 (x8_2 + 1)) t270 t271 t272 t275) else (laws_FnLoopClues.l1 k2 t279 x5_1 (wrap64 (x7_2 + 1)) (wrap64 (x8_2 + 1)) t270 t271 t272 t275)) = some r := by rw [← hbq35] at H; exact H
                                  have Nbq35 := Aside0.mk hbq35
                                  clear hbq35
                                  by_cases c36 : bq35 = true
                                  · subst c36
                                    have H1 : (laws_FnLoopClues.l1 k2 t279 x5_1 (wrap64 ((wrap64 (x7_2 + 1)) + 1)) (wrap64 (x8_2 + 1)) t270 t271 t272 t275) = some r := by rw [if_pos rfl] at H; exact H
                                    clear H
                                    have H := H1
                                    clear H1
                                    have H' := Aside0.mk H
                                    clear H
                                    have hcz37_0 : wr.cell? ⟨gb278, 0, none⟩ = some (.int .i64 t270) := (blk_cell BK278.out 0).trans rfl
                                    have hcz37_1 : wr.cell? ⟨gb278, 1, none⟩ = some (.int .i64 t271) := (blk_cell BK278.out 1).trans rfl
                                    have hcz37_2 : wr.cell? ⟨gb278, 2, none⟩ = some (.slice Ao13 t272.length co13) := (blk_cell BK278.out 2).trans rfl
                                    have hcz37_3 : wr.cell? ⟨gb278, 3, none⟩ = some (.slice Ao14 t275.length co14) := (blk_cell BK278.out 3).trans rfl
                                    have hfz37_0 := blk_frozen BK278.out 0
                                    have hfz37_1 := blk_frozen BK278.out 1
                                    have hfz37_2 := blk_frozen BK278.out 2
                                    have hfz37_3 := blk_frozen BK278.out 3
                                    have p291 : 0 ≤ (0 : Int) := (by omega)
                                    have q291 : 0 < (t272.length : Int) := of_decide_eq_true (by first | (with_reducible assumption) | assumption)
                                    obtain ⟨ad291, A291_0, c291_0, e291, hx291_0, hl291_0, hi291_0⟩ := at_L1 (Kd.Q_reads' HO_279002.out).2.2 0 p291 q291
                                    cases e291
                                    have qi291 : (0 < t272.length) = True := eq_true (by omega)
                                    (try rw [show ((0 : Int)).toNat = 0 from rfl] at hx291_0)
                                    (try rw [Addr.add_zero'] at hx291_0)
                                    have HR291_0 := Aside0.mk hi291_0
                                    have HC291_0 := Aside0.mk hl291_0
                                    clear hi291_0 hl291_0
                                    replace p291 := eq_true p291
                                    replace q291 := eq_true q291
                                    have p292 : 0 ≤ (x8_2 : Int) := of_decide_eq_true (by first | (with_reducible assumption) | assumption)
                                    have q292 : x8_2 < ((rd_L1 t272 0).length : Int) := of_decide_eq_true (by first | (with_reducible assumption) | assumption)
                                    obtain ⟨ad292, e292, hx292_0⟩ := Kd.at_bool (by repeat (first | (with_reducible exact HR291_0.out) | (with_reducible refine Kd.C_alloc ?_ _) | (with_reducible refine Kd.C_drewN ?_ _) | (with_reducible refine Kd.C_drew ?_) | exact HR291_0.out)) x8_2 p292 q292
                                    (try rw [← Nbq30.out] at hx292_0)
                                    (try rw [← Nbq35.out] at hx292_0)
                                    cases e292
                                    replace p292 := eq_true p292
                                    replace q292 := eq_true q292
                                    have p293 : 0 ≤ (t270 : Int) := of_decide_eq_true (by first | (with_reducible assumption) | assumption)
                                    have q293 : t270 < (t272.length : Int) := of_decide_eq_true (by first | (with_reducible assumption) | assumption)
                                    obtain ⟨ad293, A293_0, c293_0, e293, hx293_0, hl293_0, hi293_0⟩ := at_L1 (Kd.Q_reads' HO_279002.out).2.2 t270 p293 q293
                                    obtain rfl : ad291 = ad293 := (by injection e293)
                                    have HR293_0 := Aside0.mk hi293_0
                                    have HC293_0 := Aside0.mk hl293_0
                                    clear hi293_0 hl293_0
                                    replace p293 := eq_true p293
                                    replace q293 := eq_true q293
                                    have p294 : 0 ≤ (x8_2 : Int) := of_decide_eq_true (by first | (with_reducible assumption) | assumption)
                                    have q294 : x8_2 < ((rd_L1 t272 t270).length : Int) := of_decide_eq_true (by first | (with_reducible assumption) | assumption)
                                    obtain ⟨ad294, e294, hx294_0⟩ := Kd.at_bool (by repeat (first | (with_reducible exact HR293_0.out) | (with_reducible refine Kd.C_alloc ?_ _) | (with_reducible refine Kd.C_drewN ?_ _) | (with_reducible refine Kd.C_drew ?_) | exact HR293_0.out)) x8_2 p294 q294
                                    (try rw [← Nbq30.out] at hx294_0)
                                    (try rw [← Nbq35.out] at hx294_0)
                                    cases e294
                                    replace p294 := eq_true p294
                                    replace q294 := eq_true q294
                                    go_wp2
                                    go_roundg k2
                                    case measure => have := HK1.out; have := HK2.out; omega
                                    case rel => exact ⟨(wrap64 ((wrap64 (x7_2 + 1)) + 1)), (wrap64 (x8_2 + 1)), (by first | rfl | (simp; done) | (simp [*]; done)), (by first | rfl | (simp; done) | (simp [*]; done)), H', ⟨by have := HK1.out; have := HK2.out; omega⟩, ⟨by (with_reducible repeat (first | apply Kd.R_alloc | apply Kd.R_drewN | apply Kd.R_drew)); exact HO_4.out⟩, ⟨by (with_reducible repeat (first | apply Kd.Q_alloc | apply Kd.Q_drewN | apply Kd.Q_drew)); exact HO_279002.out⟩, ⟨by (with_reducible repeat (first | apply Kd.S_alloc | apply Kd.S_drewN | apply Kd.S_drew)); exact HO_279003.out⟩, ⟨by (with_reducible repeat (first | refine blk_drewN ?_ _ | refine blk_drew ?_ | refine blk_alloc ?_ _)); exact BK278.out⟩, ⟨by repeat (first | (with_reducible first | exact HB.out | apply below_alloc | apply pw_below_drewN | apply below_drew1 | refine below_set ?_ GE278.out) | exact HB.out)⟩⟩
                                  · replace c36 := Bool.eq_false_iff.mpr c36
                                    subst c36
                                    have H1 : (laws_FnLoopClues.l1 k2 t279 x5_1 (wrap64 (x7_2 + 1)) (wrap64 (x8_2 + 1)) t270 t271 t272 t275) = some r := by rw [if_neg (show ¬ (false = true) by decide)] at H; exact H
                                    clear H
                                    have H := H1
                                    clear H1
                                    have H' := Aside0.mk H
                                    clear H
                                    have hcz38_0 : wr.cell? ⟨gb278, 0, none⟩ = some (.int .i64 t270) := (blk_cell BK278.out 0).trans rfl
                                    have hcz38_1 : wr.cell? ⟨gb278, 1, none⟩ = some (.int .i64 t271) := (blk_cell BK278.out 1).trans rfl
                                    have hcz38_2 : wr.cell? ⟨gb278, 2, none⟩ = some (.slice Ao13 t272.length co13) := (blk_cell BK278.out 2).trans rfl
                                    have hcz38_3 : wr.cell? ⟨gb278, 3, none⟩ = some (.slice Ao14 t275.length co14) := (blk_cell BK278.out 3).trans rfl
                                    have hfz38_0 := blk_frozen BK278.out 0
                                    have hfz38_1 := blk_frozen BK278.out 1
                                    have hfz38_2 := blk_frozen BK278.out 2
                                    have hfz38_3 := blk_frozen BK278.out 3
                                    have p291 : 0 ≤ (0 : Int) := (by omega)
                                    have q291 : 0 < (t272.length : Int) := of_decide_eq_true (by first | (with_reducible assumption) | assumption)
                                    obtain ⟨ad291, A291_0, c291_0, e291, hx291_0, hl291_0, hi291_0⟩ := at_L1 (Kd.Q_reads' HO_279002.out).2.2 0 p291 q291
                                    cases e291
                                    have qi291 : (0 < t272.length) = True := eq_true (by omega)
                                    (try rw [show ((0 : Int)).toNat = 0 from rfl] at hx291_0)
                                    (try rw [Addr.add_zero'] at hx291_0)
                                    have HR291_0 := Aside0.mk hi291_0
                                    have HC291_0 := Aside0.mk hl291_0
                                    clear hi291_0 hl291_0
                                    replace p291 := eq_true p291
                                    replace q291 := eq_true q291
                                    have p292 : 0 ≤ (x8_2 : Int) := of_decide_eq_true (by first | (with_reducible assumption) | assumption)
                                    have q292 : x8_2 < ((rd_L1 t272 0).length : Int) := of_decide_eq_true (by first | (with_reducible assumption) | assumption)
                                    obtain ⟨ad292, e292, hx292_0⟩ := Kd.at_bool (by repeat (first | (with_reducible exact HR291_0.out) | (with_reducible refine Kd.C_alloc ?_ _) | (with_reducible refine Kd.C_drewN ?_ _) | (with_reducible refine Kd.C_drew ?_) | exact HR291_0.out)) x8_2 p292 q292
                                    (try rw [← Nbq30.out] at hx292_0)
                                    (try rw [← Nbq35.out] at hx292_0)
                                    cases e292
                                    replace p292 := eq_true p292
                                    replace q292 := eq_true q292
                                    have p293 : 0 ≤ (t270 : Int) := of_decide_eq_true (by first | (with_reducible assumption) | assumption)
                                    have q293 : t270 < (t272.length : Int) := of_decide_eq_true (by first | (with_reducible assumption) | assumption)
                                    obtain ⟨ad293, A293_0, c293_0, e293, hx293_0, hl293_0, hi293_0⟩ := at_L1 (Kd.Q_reads' HO_279002.out).2.2 t270 p293 q293
                                    obtain rfl : ad291 = ad293 := (by injection e293)
                                    have HR293_0 := Aside0.mk hi293_0
                                    have HC293_0 := Aside0.mk hl293_0
                                    clear hi293_0 hl293_0
                                    replace p293 := eq_true p293
                                    replace q293 := eq_true q293
                                    have p294 : 0 ≤ (x8_2 : Int) := of_decide_eq_true (by first | (with_reducible assumption) | assumption)
                                    have q294 : x8_2 < ((rd_L1 t272 t270).length : Int) := of_decide_eq_true (by first | (with_reducible assumption) | assumption)
                                    obtain ⟨ad294, e294, hx294_0⟩ := Kd.at_bool (by repeat (first | (with_reducible exact HR293_0.out) | (with_reducible refine Kd.C_alloc ?_ _) | (with_reducible refine Kd.C_drewN ?_ _) | (with_reducible refine Kd.C_drew ?_) | exact HR293_0.out)) x8_2 p294 q294
                                    (try rw [← Nbq30.out] at hx294_0)
                                    (try rw [← Nbq35.out] at hx294_0)
                                    cases e294
                                    replace p294 := eq_true p294
                                    replace q294 := eq_true q294
                                    go_wp2
                                    go_roundg k2
                                    case measure => have := HK1.out; have := HK2.out; omega
                                    case rel => exact ⟨(wrap64 (x7_2 + 1)), (wrap64 (x8_2 + 1)), (by first | rfl | (simp; done) | (simp [*]; done)), (by first | rfl | (simp; done) | (simp [*]; done)), H', ⟨by have := HK1.out; have := HK2.out; omega⟩, ⟨by (with_reducible repeat (first | apply Kd.R_alloc | apply Kd.R_drewN | apply Kd.R_drew)); exact HO_4.out⟩, ⟨by (with_reducible repeat (first | apply Kd.Q_alloc | apply Kd.Q_drewN | apply Kd.Q_drew)); exact HO_279002.out⟩, ⟨by (with_reducible repeat (first | apply Kd.S_alloc | apply Kd.S_drewN | apply Kd.S_drew)); exact HO_279003.out⟩, ⟨by (with_reducible repeat (first | refine blk_drewN ?_ _ | refine blk_drew ?_ | refine blk_alloc ?_ _)); exact BK278.out⟩, ⟨by repeat (first | (with_reducible first | exact HB.out | apply below_alloc | apply pw_below_drewN | apply below_drew1 | refine below_set ?_ GE278.out) | exact HB.out)⟩⟩
                                · rw [if_neg c34] at H
                                  exact absurd H (by simp)
                              · rw [if_neg c33] at H
                                exact absurd H (by simp)
                            · rw [if_neg c32] at H
                              exact absurd H (by simp)
                          · replace c31 := Bool.eq_false_iff.mpr c31
                            subst c31
                            have H1 : (if 0 ≤ t270 then (if t270 < (t272.length : Int) then (if x8_2 < ((rd_L1 t272 t270).length : Int) then (if rdOf false (rd_L1 t272 t270) x8_2 = true then (laws_FnLoopClues.l1 k2 t279 x5_1 (wrap64 (x7_2 + 1)) (wrap64 (x8_2 + 1)) t270 t271 t272 t275) else (laws_FnLoopClues.l1 k2 t279 x5_1 x7_2 (wrap64 (x8_2 + 1)) t270 t271 t272 t275)) else (none)) else (none)) else (none)) = some r := by rw [if_neg (show ¬ (false = true) by decide)] at H; exact H
                            clear H
                            have H := H1
                            clear H1
                            by_cases c39 : 0 ≤ t270
                            · rw [if_pos c39] at H
                              have c39b0 : decide (0 ≤ t270) = true := decide_eq_true c39
                              clear c39
                              by_cases c40 : t270 < (t272.length : Int)
                              · rw [if_pos c40] at H
                                have c40b0 : decide (t270 < (t272.length : Int)) = true := decide_eq_true c40
                                clear c40
                                by_cases c41 : x8_2 < ((rd_L1 t272 t270).length : Int)
                                · rw [if_pos c41] at H
                                  have c41b0 : decide (x8_2 < ((rd_L1 t272 t270).length : Int)) = true := decide_eq_true c41
                                  clear c41
                                  obtain ⟨bq42, hbq42⟩ : ∃ b_ : Bool, b_ = (rdOf false (rd_L1 t272 t270) x8_2) := ⟨_, rfl⟩
                                  replace H : (if bq42 = true then (laws_FnLoopClues.l1 k2 t279 x5_1 (wrap64 (x7_2 + 1)) (wrap64 (x8_2 + 1)) t270 t271 t272 t275) else (laws_FnLoopClues.l1 k2 t279 x5_1 x7_2 (wrap64 (x8_2 + 1)) t270 t271 t272 t275)) = some r := by rw [← hbq42] at H; exact H
                                  have Nbq42 := Aside0.mk hbq42
                                  clear hbq42
                                  by_cases c43 : bq42 = true
                                  · subst c43
                                    have H1 : (laws_FnLoopClues.l1 k2 t279 x5_1 (wrap64 (x7_2 + 1)) (wrap64 (x8_2 + 1)) t270 t271 t272 t275) = some r := by rw [if_pos rfl] at H; exact H
                                    clear H
                                    have H := H1
                                    clear H1
                                    have H' := Aside0.mk H
                                    clear H
                                    have hcz44_0 : wr.cell? ⟨gb278, 0, none⟩ = some (.int .i64 t270) := (blk_cell BK278.out 0).trans rfl
                                    have hcz44_1 : wr.cell? ⟨gb278, 1, none⟩ = some (.int .i64 t271) := (blk_cell BK278.out 1).trans rfl
                                    have hcz44_2 : wr.cell? ⟨gb278, 2, none⟩ = some (.slice Ao13 t272.length co13) := (blk_cell BK278.out 2).trans rfl
                                    have hcz44_3 : wr.cell? ⟨gb278, 3, none⟩ = some (.slice Ao14 t275.length co14) := (blk_cell BK278.out 3).trans rfl
                                    have hfz44_0 := blk_frozen BK278.out 0
                                    have hfz44_1 := blk_frozen BK278.out 1
                                    have hfz44_2 := blk_frozen BK278.out 2
                                    have hfz44_3 := blk_frozen BK278.out 3
                                    have p291 : 0 ≤ (0 : Int) := (by omega)
                                    have q291 : 0 < (t272.length : Int) := of_decide_eq_true (by first | (with_reducible assumption) | assumption)
                                    obtain ⟨ad291, A291_0, c291_0, e291, hx291_0, hl291_0, hi291_0⟩ := at_L1 (Kd.Q_reads' HO_279002.out).2.2 0 p291 q291
                                    cases e291
                                    have qi291 : (0 < t272.length) = True := eq_true (by omega)
                                    (try rw [show ((0 : Int)).toNat = 0 from rfl] at hx291_0)
                                    (try rw [Addr.add_zero'] at hx291_0)
                                    have HR291_0 := Aside0.mk hi291_0
                                    have HC291_0 := Aside0.mk hl291_0
                                    clear hi291_0 hl291_0
                                    replace p291 := eq_true p291
                                    replace q291 := eq_true q291
                                    have p292 : 0 ≤ (x8_2 : Int) := of_decide_eq_true (by first | (with_reducible assumption) | assumption)
                                    have q292 : x8_2 < ((rd_L1 t272 0).length : Int) := of_decide_eq_true (by first | (with_reducible assumption) | assumption)
                                    obtain ⟨ad292, e292, hx292_0⟩ := Kd.at_bool (by repeat (first | (with_reducible exact HR291_0.out) | (with_reducible refine Kd.C_alloc ?_ _) | (with_reducible refine Kd.C_drewN ?_ _) | (with_reducible refine Kd.C_drew ?_) | exact HR291_0.out)) x8_2 p292 q292
                                    (try rw [← Nbq30.out] at hx292_0)
                                    (try rw [← Nbq42.out] at hx292_0)
                                    cases e292
                                    replace p292 := eq_true p292
                                    replace q292 := eq_true q292
                                    have p295 : 0 ≤ (t270 : Int) := of_decide_eq_true (by first | (with_reducible assumption) | assumption)
                                    have q295 : t270 < (t272.length : Int) := of_decide_eq_true (by first | (with_reducible assumption) | assumption)
                                    obtain ⟨ad295, A295_0, c295_0, e295, hx295_0, hl295_0, hi295_0⟩ := at_L1 (Kd.Q_reads' HO_279002.out).2.2 t270 p295 q295
                                    obtain rfl : ad291 = ad295 := (by injection e295)
                                    have HR295_0 := Aside0.mk hi295_0
                                    have HC295_0 := Aside0.mk hl295_0
                                    clear hi295_0 hl295_0
                                    replace p295 := eq_true p295
                                    replace q295 := eq_true q295
                                    have p296 : 0 ≤ (x8_2 : Int) := of_decide_eq_true (by first | (with_reducible assumption) | assumption)
                                    have q296 : x8_2 < ((rd_L1 t272 t270).length : Int) := of_decide_eq_true (by first | (with_reducible assumption) | assumption)
                                    obtain ⟨ad296, e296, hx296_0⟩ := Kd.at_bool (by repeat (first | (with_reducible exact HR295_0.out) | (with_reducible refine Kd.C_alloc ?_ _) | (with_reducible refine Kd.C_drewN ?_ _) | (with_reducible refine Kd.C_drew ?_) | exact HR295_0.out)) x8_2 p296 q296
                                    (try rw [← Nbq30.out] at hx296_0)
                                    (try rw [← Nbq42.out] at hx296_0)
                                    cases e296
                                    replace p296 := eq_true p296
                                    replace q296 := eq_true q296
                                    go_wp2
                                    go_roundg k2
                                    case measure => have := HK1.out; have := HK2.out; omega
                                    case rel => exact ⟨(wrap64 (x7_2 + 1)), (wrap64 (x8_2 + 1)), (by first | rfl | (simp; done) | (simp [*]; done)), (by first | rfl | (simp; done) | (simp [*]; done)), H', ⟨by have := HK1.out; have := HK2.out; omega⟩, ⟨by (with_reducible repeat (first | apply Kd.R_alloc | apply Kd.R_drewN | apply Kd.R_drew)); exact HO_4.out⟩, ⟨by (with_reducible repeat (first | apply Kd.Q_alloc | apply Kd.Q_drewN | apply Kd.Q_drew)); exact HO_279002.out⟩, ⟨by (with_reducible repeat (first | apply Kd.S_alloc | apply Kd.S_drewN | apply Kd.S_drew)); exact HO_279003.out⟩, ⟨by (with_reducible repeat (first | refine blk_drewN ?_ _ | refine blk_drew ?_ | refine blk_alloc ?_ _)); exact BK278.out⟩, ⟨by repeat (first | (with_reducible first | exact HB.out | apply below_alloc | apply pw_below_drewN | apply below_drew1 | refine below_set ?_ GE278.out) | exact HB.out)⟩⟩
                                  · replace c43 := Bool.eq_false_iff.mpr c43
                                    subst c43
                                    have H1 : (laws_FnLoopClues.l1 k2 t279 x5_1 x7_2 (wrap64 (x8_2 + 1)) t270 t271 t272 t275) = some r := by rw [if_neg (show ¬ (false = true) by decide)] at H; exact H
                                    clear H
                                    have H := H1
                                    clear H1
                                    have H' := Aside0.mk H
                                    clear H
                                    have hcz45_0 : wr.cell? ⟨gb278, 0, none⟩ = some (.int .i64 t270) := (blk_cell BK278.out 0).trans rfl
                                    have hcz45_1 : wr.cell? ⟨gb278, 1, none⟩ = some (.int .i64 t271) := (blk_cell BK278.out 1).trans rfl
                                    have hcz45_2 : wr.cell? ⟨gb278, 2, none⟩ = some (.slice Ao13 t272.length co13) := (blk_cell BK278.out 2).trans rfl
                                    have hcz45_3 : wr.cell? ⟨gb278, 3, none⟩ = some (.slice Ao14 t275.length co14) := (blk_cell BK278.out 3).trans rfl
                                    have hfz45_0 := blk_frozen BK278.out 0
                                    have hfz45_1 := blk_frozen BK278.out 1
                                    have hfz45_2 := blk_frozen BK278.out 2
                                    have hfz45_3 := blk_frozen BK278.out 3
                                    have p291 : 0 ≤ (0 : Int) := (by omega)
                                    have q291 : 0 < (t272.length : Int) := of_decide_eq_true (by first | (with_reducible assumption) | assumption)
                                    obtain ⟨ad291, A291_0, c291_0, e291, hx291_0, hl291_0, hi291_0⟩ := at_L1 (Kd.Q_reads' HO_279002.out).2.2 0 p291 q291
                                    cases e291
                                    have qi291 : (0 < t272.length) = True := eq_true (by omega)
                                    (try rw [show ((0 : Int)).toNat = 0 from rfl] at hx291_0)
                                    (try rw [Addr.add_zero'] at hx291_0)
                                    have HR291_0 := Aside0.mk hi291_0
                                    have HC291_0 := Aside0.mk hl291_0
                                    clear hi291_0 hl291_0
                                    replace p291 := eq_true p291
                                    replace q291 := eq_true q291
                                    have p292 : 0 ≤ (x8_2 : Int) := of_decide_eq_true (by first | (with_reducible assumption) | assumption)
                                    have q292 : x8_2 < ((rd_L1 t272 0).length : Int) := of_decide_eq_true (by first | (with_reducible assumption) | assumption)
                                    obtain ⟨ad292, e292, hx292_0⟩ := Kd.at_bool (by repeat (first | (with_reducible exact HR291_0.out) | (with_reducible refine Kd.C_alloc ?_ _) | (with_reducible refine Kd.C_drewN ?_ _) | (with_reducible refine Kd.C_drew ?_) | exact HR291_0.out)) x8_2 p292 q292
                                    (try rw [← Nbq30.out] at hx292_0)
                                    (try rw [← Nbq42.out] at hx292_0)
                                    cases e292
                                    replace p292 := eq_true p292
                                    replace q292 := eq_true q292
                                    have p295 : 0 ≤ (t270 : Int) := of_decide_eq_true (by first | (with_reducible assumption) | assumption)
                                    have q295 : t270 < (t272.length : Int) := of_decide_eq_true (by first | (with_reducible assumption) | assumption)
                                    obtain ⟨ad295, A295_0, c295_0, e295, hx295_0, hl295_0, hi295_0⟩ := at_L1 (Kd.Q_reads' HO_279002.out).2.2 t270 p295 q295
                                    obtain rfl : ad291 = ad295 := (by injection e295)
                                    have HR295_0 := Aside0.mk hi295_0
                                    have HC295_0 := Aside0.mk hl295_0
                                    clear hi295_0 hl295_0
                                    replace p295 := eq_true p295
                                    replace q295 := eq_true q295
                                    have p296 : 0 ≤ (x8_2 : Int) := of_decide_eq_true (by first | (with_reducible assumption) | assumption)
                                    have q296 : x8_2 < ((rd_L1 t272 t270).length : Int) := of_decide_eq_true (by first | (with_reducible assumption) | assumption)
                                    obtain ⟨ad296, e296, hx296_0⟩ := Kd.at_bool (by repeat (first | (with_reducible exact HR295_0.out) | (with_reducible refine Kd.C_alloc ?_ _) | (with_reducible refine Kd.C_drewN ?_ _) | (with_reducible refine Kd.C_drew ?_) | exact HR295_0.out)) x8_2 p296 q296
                                    (try rw [← Nbq30.out] at hx296_0)
                                    (try rw [← Nbq42.out] at hx296_0)
                                    cases e296
                                    replace p296 := eq_true p296
                                    replace q296 := eq_true q296
                                    go_wp2
                                    go_roundg k2
                                    case measure => have := HK1.out; have := HK2.out; omega
                                    case rel => exact ⟨(x7_2), (wrap64 (x8_2 + 1)), (by first | rfl | (simp; done) | (simp [*]; done)), (by first | rfl | (simp; done) | (simp [*]; done)), H', ⟨by have := HK1.out; have := HK2.out; omega⟩, ⟨by (with_reducible repeat (first | apply Kd.R_alloc | apply Kd.R_drewN | apply Kd.R_drew)); exact HO_4.out⟩, ⟨by (with_reducible repeat (first | apply Kd.Q_alloc | apply Kd.Q_drewN | apply Kd.Q_drew)); exact HO_279002.out⟩, ⟨by (with_reducible repeat (first | apply Kd.S_alloc | apply Kd.S_drewN | apply Kd.S_drew)); exact HO_279003.out⟩, ⟨by (with_reducible repeat (first | refine blk_drewN ?_ _ | refine blk_drew ?_ | refine blk_alloc ?_ _)); exact BK278.out⟩, ⟨by repeat (first | (with_reducible first | exact HB.out | apply below_alloc | apply pw_below_drewN | apply below_drew1 | refine below_set ?_ GE278.out) | exact HB.out)⟩⟩
                                · rw [if_neg c41] at H
                                  exact absurd H (by simp)
                              · rw [if_neg c40] at H
                                exact absurd H (by simp)
                            · rw [if_neg c39] at H
                              exact absurd H (by simp)
                        · rw [if_neg c29] at H
                          exact absurd H (by simp)
                      · rw [if_neg c28] at H
                        exact absurd H (by simp)
                    · rw [if_neg c27] at H
                      exact absurd H (by simp)
                  · rw [if_neg c26] at H
                    have c26b0 : decide (x8_2 < t271) = false := decide_eq_false c26
                    clear c26
                    have H' := Aside0.mk H
                    clear H
                    have hcz46_0 : wr.cell? ⟨gb278, 0, none⟩ = some (.int .i64 t270) := (blk_cell BK278.out 0).trans rfl
                    have hcz46_1 : wr.cell? ⟨gb278, 1, none⟩ = some (.int .i64 t271) := (blk_cell BK278.out 1).trans rfl
                    have hcz46_2 : wr.cell? ⟨gb278, 2, none⟩ = some (.slice Ao13 t272.length co13) := (blk_cell BK278.out 2).trans rfl
                    have hcz46_3 : wr.cell? ⟨gb278, 3, none⟩ = some (.slice Ao14 t275.length co14) := (blk_cell BK278.out 3).trans rfl
                    have hfz46_0 := blk_frozen BK278.out 0
                    have hfz46_1 := blk_frozen BK278.out 1
                    have hfz46_2 := blk_frozen BK278.out 2
                    have hfz46_3 := blk_frozen BK278.out 3
                    go_wp2
                    go_loopg [7, 9] k2 (fun kq v7 v9 w' => ∃ (x7_3 : Int) (x9_3 : Int), v7 = .int .i64 x7_3 ∧ v9 = .int .i64 x9_3 ∧ Aside0 (laws_FnLoopClues.l2 kq t279 x5_1 x7_3 x9_3 t270 t271 t272 t275 = some r) ∧ Aside0 (kq ≤ k2) ∧ Aside0 (Kd.R (Kd.int .i64) 3 w' w.heap.size (fun _ => True) (.slice Ao18 t279.length co18) t279) ∧ Aside0 (Kd.Q (Kd.slice 4 Kd.bool) 45 w' w.heap.size (fun k_ => some k_ ≠ ((.slice Ao14 t275.length co14) : Value).ownBlock) (.slice Ao13 t272.length co13) t272) ∧ Aside0 (Kd.S (Kd.slice 4 Kd.bool) 45 w' w.heap.size (fun k_ => some k_ ≠ ((.slice Ao13 t272.length co13) : Value).ownBlock) (.slice Ao14 t275.length co14) t275) ∧ Aside0 (w'.heap[gb278]? = some (.cells #[.int .i64 t270, .int .i64 t271, (.slice Ao13 t272.length co13), (.slice Ao14 t275.length co14)] 27 (0, 0))) ∧ Aside0 (Below w.heap.size w w'))
                    case atStart => exact ⟨(x7_2), (0), (by first | rfl | (simp; done) | (simp [*]; done)), (by first | rfl | (simp; done) | (simp [*]; done)), H', ⟨Nat.le_refl _⟩, ⟨by (with_reducible repeat (first | apply Kd.R_alloc | apply Kd.R_drewN | apply Kd.R_drew)); exact HO_4.out⟩, ⟨by (with_reducible repeat (first | apply Kd.Q_alloc | apply Kd.Q_drewN | apply Kd.Q_drew)); exact HO_279002.out⟩, ⟨by (with_reducible repeat (first | apply Kd.S_alloc | apply Kd.S_drewN | apply Kd.S_drew)); exact HO_279003.out⟩, ⟨by (with_reducible repeat (first | refine blk_drewN ?_ _ | refine blk_drew ?_ | refine blk_alloc ?_ _)); exact BK278.out⟩, ⟨by repeat (first | (with_reducible first | exact HB.out | apply below_alloc | apply pw_below_drewN | apply below_drew1 | refine below_set ?_ GE278.out) | exact HB.out)⟩⟩
                    case round =>
                      clear H'
                      try clear c2
                      try clear c2b0
                      try clear c2b1
                      try clear p2
                      try clear q2
                      try clear hx2
                      try clear qi2
                      try clear c3
                      try clear q3
                      try clear c4
                      try clear q4
                      try clear c6
                      try clear p6
                      try clear c7
                      try clear c9
                      try clear c22
                      try clear c22b0
                      try clear c23
                      try clear c23b0
                      try clear c24
                      try clear c24b0
                      try clear c25
                      try clear c25b0
                      try clear c26
                      try clear c26b0
                      try clear c27
                      try clear c27b0
                      try clear c27b1
                      try clear c28
                      try clear c28b0
                      try clear p28
                      try clear q28
                      try clear hx28
                      try clear c29
                      try clear c29b0
                      try clear p29
                      try clear q29
                      try clear hx29
                      try clear qi29
                      try clear q30
                      try clear c31
                      try clear c32
                      try clear c32b0
                      try clear c33
                      try clear c33b0
                      try clear c34
                      try clear c34b0
                      try clear c35
                      try clear q35
                      try clear c36
                      try clear c39
                      try clear c39b0
                      try clear c40
                      try clear c40b0
                      try clear c41
                      try clear c41b0
                      try clear q42
                      try clear c43
                      try clear hcz12_0
                      try clear hcz12_1
                      try clear hcz12_2
                      try clear hcz12_3
                      try clear hcz16_0
                      try clear hcz16_1
                      try clear hcz16_2
                      try clear hcz16_3
                      try clear hcz20_0
                      try clear hcz20_1
                      try clear hcz20_2
                      try clear hcz20_3
                      try clear hcz37_0
                      try clear hcz37_1
                      try clear hcz37_2
                      try clear hcz37_3
                      try clear hcz38_0
                      try clear hcz38_1
                      try clear hcz38_2
                      try clear hcz38_3
                      try clear hcz44_0
                      try clear hcz44_1
                      try clear hcz44_2
                      try clear hcz44_3
                      try clear hcz45_0
                      try clear hcz45_1
                      try clear hcz45_2
                      try clear hcz45_3
                      try clear hcz46_0
                      try clear hcz46_1
                      try clear hcz46_2
                      try clear hcz46_3
                      try clear hfz12_0
                      try clear hfz12_1
                      try clear hfz12_2
                      try clear hfz12_3
                      try clear hfz16_0
                      try clear hfz16_1
                      try clear hfz16_2
                      try clear hfz16_3
                      try clear hfz20_0
                      try clear hfz20_1
                      try clear hfz20_2
                      try clear hfz20_3
                      try clear hfz37_0
                      try clear hfz37_1
                      try clear hfz37_2
                      try clear hfz37_3
                      try clear hfz38_0
                      try clear hfz38_1
                      try clear hfz38_2
                      try clear hfz38_3
                      try clear hfz44_0
                      try clear hfz44_1
                      try clear hfz44_2
                      try clear hfz44_3
                      try clear hfz45_0
                      try clear hfz45_1
                      try clear hfz45_2
                      try clear hfz45_3
                      try clear hfz46_0
                      try clear hfz46_1
                      try clear hfz46_2
                      try clear hfz46_3
                      try clear hx288_0
                      try clear hx289_0
                      try clear hx290_0
                      try clear hx291_0
                      try clear hx292_0
                      try clear hx293_0
                      try clear hx294_0
                      try clear hx295_0
                      try clear hx296_0
                      try clear p2
                      try clear p288
                      try clear p289
                      try clear p290
                      try clear p291
                      try clear p292
                      try clear p293
                      try clear p294
                      try clear p295
                      try clear p296
                      try clear p6
                      try clear q2
                      try clear q288
                      try clear q289
                      try clear q290
                      try clear q291
                      try clear q292
                      try clear q293
                      try clear q294
                      try clear q295
                      try clear q296
                      obtain ⟨x7_3, x9_3, rfl, rfl, HA, HK3, HO_4, HO_279002, HO_279003, BK278, HB⟩ := hrel
                      cases gk with
                      | zero => exact absurd HA.out (by simp [laws_FnLoopClues.l2])
                      | succ k3 =>
                        have H := HA.out
                        clear HA
                        simp only [laws_FnLoopClues.l2] at H
                        by_cases c47 : x9_3 < t270
                        · rw [if_pos c47] at H
                          have c47b0 : decide (x9_3 < t270) = true := decide_eq_true c47
                          clear c47
                          by_cases c48 : 0 < (t275.length : Int)
                          · rw [if_pos c48] at H
                            have c48b0 : decide (0 < (t275.length : Int)) = true := decide_eq_true c48
                            have c48b1 : decide (0 < t275.length) = true := decide_eq_true (by omega)
                            clear c48
                            by_cases c49 : 0 ≤ x9_3
                            · rw [if_pos c49] at H
                              have c49b0 : decide (0 ≤ x9_3) = true := decide_eq_true c49
                              clear c49
                              by_cases c50 : x9_3 < ((rd_L1 t275 0).length : Int)
                              · rw [if_pos c50] at H
                                have c50b0 : decide (x9_3 < ((rd_L1 t275 0).length : Int)) = true := decide_eq_true c50
                                clear c50
                                obtain ⟨bq51, hbq51⟩ : ∃ b_ : Bool, b_ = (rdOf false (rd_L1 t275 0) x9_3) := ⟨_, rfl⟩
                                replace H : (if bq51 = true then (if 0 ≤ t271 then (if t271 < (t275.length : Int) then (if x9_3 < ((rd_L1 t275 t271).length : Int) then (if rdOf false (rd_L1 t275 t271) x9_3 = true then (laws_FnLoopClues.l2 k3 t279 x5_1 (wrap64 ((wrap64 (x7_3 + 1)) + 1)) (wrap64 (x9_3 + 1)) t270 t271 t272 t275) else (laws_FnLoopClues.l2 k3 t279 x5_1 (wrap64 (x7_3 + 1)) (wrap64 (x9_3 + 1)) t270 t271 t272 t275)) else (none)) else (none)) else (none)) else (if 0 ≤ t271 then (if t271 < (t275.length : Int) then (if x9_3 < ((rd_L1 t275 t271).length : Int) then (if rdOf false (rd_L1 t275 t271) x9_3 = true then (laws_FnLoopClues.l2 k3 t279 x5_1 (wrap64 (x7_3 + 1)) (wrap64 (x9_3 + 1)) t270 t271 t272 t275) else (laws_FnLoopClues.l2 k3 t279 x5_1 x7_3 (wrap64 (x9_3 + 1)) t270 t271 t272 t275)) else (none)) else (none)) else (none))) = some r := by rw [← hbq51] at H; exact H
                                have Nbq51 := Aside0.mk hbq51
                                clear hbq51
                                by_cases c52 : bq51 = true
                                · subst c52
                                  have H1 : (if 0 ≤ t271 then (if t271 < (t275.length : Int) then (if x9_3 < ((rd_L1 t275 t271).length : Int) then (if rdOf false (rd_L1 t275 t271) x9_3 = true then (laws_FnLoopClues.l2 k3 t279 x5_1 (wrap64 ((wrap64 (x7_3 + 1)) + 1)) (wrap64 (x9_3 + 1)) t270 t271 t272 t275) else (laws_FnLoopClues.l2 k3 t279 x5_1 (wrap64 (x7_3 + 1)) (wrap64 (x9_3 + 1)) t270 t271 t272 t275)) else (none)) else (none)) else (none)) = some r := by rw [if_pos rfl] at H; exact H
                                  clear H
                                  have H := H1
                                  clear H1
                                  by_cases c53 : 0 ≤ t271
                                  · rw [if_pos c53] at H
                                    have c53b0 : decide (0 ≤ t271) = true := decide_eq_true c53
                                    clear c53
                                    by_cases c54 : t271 < (t275.length : Int)
                                    · rw [if_pos c54] at H
                                      have c54b0 : decide (t271 < (t275.length : Int)) = true := decide_eq_true c54
                                      clear c54
                                      by_cases c55 : x9_3 < ((rd_L1 t275 t271).length : Int)
                                      · rw [if_pos c55] at H
                                        have c55b0 : decide (x9_3 < ((rd_L1 t275 t271).length : Int)) = true := decide_eq_true c55
                                        clear c55
                                        obtain ⟨bq56, hbq56⟩ : ∃ b_ : Bool, b_ = (rdOf false (rd_L1 t275 t271) x9_3) := ⟨_, rfl⟩
                                        replace H : (if bq56 = true then (laws_FnLoopClues.l2 k3 t279 x5_1 (wrap64 ((wrap64 (x7_3 + 1)) + 1)) (wrap64 (x9_3 + 1)) t270 t271 t272 t275) else (laws_FnLoopClues.l2 k3 t279 x5_1 (wrap64 (x7_3 + 1)) (wrap64 (x9_3 + 1)) t270 t271 t272 t275)) = some r := by rw [← hbq56] at H; exact H
                                        have Nbq56 := Aside0.mk hbq56
                                        clear hbq56
                                        by_cases c57 : bq56 = true
                                        · subst c57
                                          have H1 : (laws_FnLoopClues.l2 k3 t279 x5_1 (wrap64 ((wrap64 (x7_3 + 1)) + 1)) (wrap64 (x9_3 + 1)) t270 t271 t272 t275) = some r := by rw [if_pos rfl] at H; exact H
                                          clear H
                                          have H := H1
                                          clear H1
                                          have H' := Aside0.mk H
                                          clear H
                                          have hcz58_0 : wr.cell? ⟨gb278, 0, none⟩ = some (.int .i64 t270) := (blk_cell BK278.out 0).trans rfl
                                          have hcz58_1 : wr.cell? ⟨gb278, 1, none⟩ = some (.int .i64 t271) := (blk_cell BK278.out 1).trans rfl
                                          have hcz58_2 : wr.cell? ⟨gb278, 2, none⟩ = some (.slice Ao13 t272.length co13) := (blk_cell BK278.out 2).trans rfl
                                          have hcz58_3 : wr.cell? ⟨gb278, 3, none⟩ = some (.slice Ao14 t275.length co14) := (blk_cell BK278.out 3).trans rfl
                                          have hfz58_0 := blk_frozen BK278.out 0
                                          have hfz58_1 := blk_frozen BK278.out 1
                                          have hfz58_2 := blk_frozen BK278.out 2
                                          have hfz58_3 := blk_frozen BK278.out 3
                                          have p298 : 0 ≤ (0 : Int) := (by omega)
                                          have q298 : 0 < (t275.length : Int) := of_decide_eq_true (by first | (with_reducible assumption) | assumption)
                                          obtain ⟨ad298, A298_0, c298_0, e298, hx298_0, hl298_0, hi298_0⟩ := at_L1 (Kd.S_reads' HO_279003.out).2.2 0 p298 q298
                                          cases e298
                                          obtain ⟨ce298, hce298, hMe298, hcc298⟩ := Kd.S_get HO_279003.out [] 0 p298 (by first | exact q298 | exact of_decide_eq_true (by first | (with_reducible assumption) | assumption) | (have e_ := (Kd.S_reads' HO_279003.out).1; omega))
                                          obtain ⟨ve298_0, rfl, ge298_0⟩ := hMe298
                                          have hv298_0 := hcc298 0 _ rfl
                                          rw [Nat.add_zero, show ((Kd.slice 4 Kd.bool)).sz = 1 from rfl, Nat.mul_one] at hv298_0
                                          replace hv298_0 := Option.some.inj (hv298_0.symm.trans hx298_0)
                                          rw [hv298_0] at ge298_0
                                          have HL298_0 := Aside0.mk (show Kd.R Kd.bool 4 _ _ _ _ (rd_L1 t275 0) from ge298_0)
                                          clear hv298_0 ge298_0
                                          clear hcc298 hce298
                                          have qi298 : (0 < t275.length) = True := eq_true (by omega)
                                          (try rw [show ((0 : Int)).toNat = 0 from rfl] at hx298_0)
                                          (try rw [Addr.add_zero'] at hx298_0)
                                          have HR298_0 := Aside0.mk hi298_0
                                          have HC298_0 := Aside0.mk hl298_0
                                          clear hi298_0 hl298_0
                                          replace p298 := eq_true p298
                                          replace q298 := eq_true q298
                                          have p299 : 0 ≤ (x9_3 : Int) := of_decide_eq_true (by first | (with_reducible assumption) | assumption)
                                          have q299 : x9_3 < ((rd_L1 t275 0).length : Int) := of_decide_eq_true (by first | (with_reducible assumption) | assumption)
                                          obtain ⟨ad299, e299, hx299_0⟩ := Kd.at_bool (by repeat (first | (with_reducible exact HR298_0.out) | (with_reducible refine Kd.C_alloc ?_ _) | (with_reducible refine Kd.C_drewN ?_ _) | (with_reducible refine Kd.C_drew ?_) | exact HR298_0.out)) x9_3 p299 q299
                                          (try rw [← Nbq51.out] at hx299_0)
                                          (try rw [← Nbq56.out] at hx299_0)
                                          cases e299
                                          replace p299 := eq_true p299
                                          replace q299 := eq_true q299
                                          have p300 : 0 ≤ (t271 : Int) := of_decide_eq_true (by first | (with_reducible assumption) | assumption)
                                          have q300 : t271 < (t275.length : Int) := of_decide_eq_true (by first | (with_reducible assumption) | assumption)
                                          obtain ⟨ad300, A300_0, c300_0, e300, hx300_0, hl300_0, hi300_0⟩ := at_L1 (Kd.S_reads' HO_279003.out).2.2 t271 p300 q300
                                          obtain rfl : ad298 = ad300 := (by injection e300)
                                          obtain ⟨ce300, hce300, hMe300, hcc300⟩ := Kd.S_get HO_279003.out [] t271 p300 (by first | exact q300 | exact of_decide_eq_true (by first | (with_reducible assumption) | assumption) | (have e_ := (Kd.S_reads' HO_279003.out).1; omega))
                                          obtain ⟨ve300_0, rfl, ge300_0⟩ := hMe300
                                          have hv300_0 := hcc300 0 _ rfl
                                          rw [Nat.add_zero, show ((Kd.slice 4 Kd.bool)).sz = 1 from rfl, Nat.mul_one] at hv300_0
                                          replace hv300_0 := Option.some.inj (hv300_0.symm.trans hx300_0)
                                          rw [hv300_0] at ge300_0
                                          have HL300_0 := Aside0.mk (show Kd.R Kd.bool 4 _ _ _ _ (rd_L1 t275 t271) from ge300_0)
                                          clear hv300_0 ge300_0
                                          clear hcc300 hce300
                                          have HR300_0 := Aside0.mk hi300_0
                                          have HC300_0 := Aside0.mk hl300_0
                                          clear hi300_0 hl300_0
                                          replace p300 := eq_true p300
                                          replace q300 := eq_true q300
                                          have p301 : 0 ≤ (x9_3 : Int) := of_decide_eq_true (by first | (with_reducible assumption) | assumption)
                                          have q301 : x9_3 < ((rd_L1 t275 t271).length : Int) := of_decide_eq_true (by first | (with_reducible assumption) | assumption)
                                          obtain ⟨ad301, e301, hx301_0⟩ := Kd.at_bool (by repeat (first | (with_reducible exact HR300_0.out) | (with_reducible refine Kd.C_alloc ?_ _) | (with_reducible refine Kd.C_drewN ?_ _) | (with_reducible refine Kd.C_drew ?_) | exact HR300_0.out)) x9_3 p301 q301
                                          (try rw [← Nbq51.out] at hx301_0)
                                          (try rw [← Nbq56.out] at hx301_0)
                                          cases e301
                                          replace p301 := eq_true p301
                                          replace q301 := eq_true q301
                                          go_wp2
                                          go_roundg k3
                                          case measure => have := HK1.out; have := HK2.out; have := HK3.out; omega
                                          case rel => exact ⟨(wrap64 ((wrap64 (x7_3 + 1)) + 1)), (wrap64 (x9_3 + 1)), (by first | rfl | (simp; done) | (simp [*]; done)), (by first | rfl | (simp; done) | (simp [*]; done)), H', ⟨by have := HK1.out; have := HK2.out; have := HK3.out; omega⟩, ⟨by (with_reducible repeat (first | apply Kd.R_alloc | apply Kd.R_drewN | apply Kd.R_drew)); exact HO_4.out⟩, ⟨by (with_reducible repeat (first | apply Kd.Q_alloc | apply Kd.Q_drewN | apply Kd.Q_drew)); exact HO_279002.out⟩, ⟨by (with_reducible repeat (first | apply Kd.S_alloc | apply Kd.S_drewN | apply Kd.S_drew)); exact HO_279003.out⟩, ⟨by (with_reducible repeat (first | refine blk_drewN ?_ _ | refine blk_drew ?_ | refine blk_alloc ?_ _)); exact BK278.out⟩, ⟨by repeat (first | (with_reducible first | exact HB.out | apply below_alloc | apply pw_below_drewN | apply below_drew1 | refine below_set ?_ GE278.out) | exact HB.out)⟩⟩
                                        · replace c57 := Bool.eq_false_iff.mpr c57
                                          subst c57
                                          have H1 : (laws_FnLoopClues.l2 k3 t279 x5_1 (wrap64 (x7_3 + 1)) (wrap64 (x9_3 + 1)) t270 t271 t272 t275) = some r := by rw [if_neg (show ¬ (false = true) by decide)] at H; exact H
                                          clear H
                                          have H := H1
                                          clear H1
                                          have H' := Aside0.mk H
                                          clear H
                                          have hcz59_0 : wr.cell? ⟨gb278, 0, none⟩ = some (.int .i64 t270) := (blk_cell BK278.out 0).trans rfl
                                          have hcz59_1 : wr.cell? ⟨gb278, 1, none⟩ = some (.int .i64 t271) := (blk_cell BK278.out 1).trans rfl
                                          have hcz59_2 : wr.cell? ⟨gb278, 2, none⟩ = some (.slice Ao13 t272.length co13) := (blk_cell BK278.out 2).trans rfl
                                          have hcz59_3 : wr.cell? ⟨gb278, 3, none⟩ = some (.slice Ao14 t275.length co14) := (blk_cell BK278.out 3).trans rfl
                                          have hfz59_0 := blk_frozen BK278.out 0
                                          have hfz59_1 := blk_frozen BK278.out 1
                                          have hfz59_2 := blk_frozen BK278.out 2
                                          have hfz59_3 := blk_frozen BK278.out 3
                                          have p298 : 0 ≤ (0 : Int) := (by omega)
                                          have q298 : 0 < (t275.length : Int) := of_decide_eq_true (by first | (with_reducible assumption) | assumption)
                                          obtain ⟨ad298, A298_0, c298_0, e298, hx298_0, hl298_0, hi298_0⟩ := at_L1 (Kd.S_reads' HO_279003.out).2.2 0 p298 q298
                                          cases e298
                                          obtain ⟨ce298, hce298, hMe298, hcc298⟩ := Kd.S_get HO_279003.out [] 0 p298 (by first | exact q298 | exact of_decide_eq_true (by first | (with_reducible assumption) | assumption) | (have e_ := (Kd.S_reads' HO_279003.out).1; omega))
                                          obtain ⟨ve298_0, rfl, ge298_0⟩ := hMe298
                                          have hv298_0 := hcc298 0 _ rfl
                                          rw [Nat.add_zero, show ((Kd.slice 4 Kd.bool)).sz = 1 from rfl, Nat.mul_one] at hv298_0
                                          replace hv298_0 := Option.some.inj (hv298_0.symm.trans hx298_0)
                                          rw [hv298_0] at ge298_0
                                          have HL298_0 := Aside0.mk (show Kd.R Kd.bool 4 _ _ _ _ (rd_L1 t275 0) from ge298_0)
                                          clear hv298_0 ge298_0
                                          clear hcc298 hce298
                                          have qi298 : (0 < t275.length) = True := eq_true (by omega)
                                          (try rw [show ((0 : Int)).toNat = 0 from rfl] at hx298_0)
                                          (try rw [Addr.add_zero'] at hx298_0)
                                          have HR298_0 := Aside0.mk hi298_0
                                          have HC298_0 := Aside0.mk hl298_0
                                          clear hi298_0 hl298_0
                                          replace p298 := eq_true p298
                                          replace q298 := eq_true q298
                                          have p299 : 0 ≤ (x9_3 : Int) := of_decide_eq_true (by first | (with_reducible assumption) | assumption)
                                          have q299 : x9_3 < ((rd_L1 t275 0).length : Int) := of_decide_eq_true (by first | (with_reducible assumption) | assumption)
                                          obtain ⟨ad299, e299, hx299_0⟩ := Kd.at_bool (by repeat (first | (with_reducible exact HR298_0.out) | (with_reducible refine Kd.C_alloc ?_ _) | (with_reducible refine Kd.C_drewN ?_ _) | (with_reducible refine Kd.C_drew ?_) | exact HR298_0.out)) x9_3 p299 q299
                                          (try rw [← Nbq51.out] at hx299_0)
                                          (try rw [← Nbq56.out] at hx299_0)
                                          cases e299
                                          replace p299 := eq_true p299
                                          replace q299 := eq_true q299
                                          have p300 : 0 ≤ (t271 : Int) := of_decide_eq_true (by first | (with_reducible assumption) | assumption)
                                          have q300 : t271 < (t275.length : Int) := of_decide_eq_true (by first | (with_reducible assumption) | assumption)
                                          obtain ⟨ad300, A300_0, c300_0, e300, hx300_0, hl300_0, hi300_0⟩ := at_L1 (Kd.S_reads' HO_279003.out).2.2 t271 p300 q300
                                          obtain rfl : ad298 = ad300 := (by injection e300)
                                          obtain ⟨ce300, hce300, hMe300, hcc300⟩ := Kd.S_get HO_279003.out [] t271 p300 (by first | exact q300 | exact of_decide_eq_true (by first | (with_reducible assumption) | assumption) | (have e_ := (Kd.S_reads' HO_279003.out).1; omega))
                                          obtain ⟨ve300_0, rfl, ge300_0⟩ := hMe300
                                          have hv300_0 := hcc300 0 _ rfl
                                          rw [Nat.add_zero, show ((Kd.slice 4 Kd.bool)).sz = 1 from rfl, Nat.mul_one] at hv300_0
                                          replace hv300_0 := Option.some.inj (hv300_0.symm.trans hx300_0)
                                          rw [hv300_0] at ge300_0
                                          have HL300_0 := Aside0.mk (show Kd.R Kd.bool 4 _ _ _ _ (rd_L1 t275 t271) from ge300_0)
                                          clear hv300_0 ge300_0
                                          clear hcc300 hce300
                                          have HR300_0 := Aside0.mk hi300_0
                                          have HC300_0 := Aside0.mk hl300_0
                                          clear hi300_0 hl300_0
                                          replace p300 := eq_true p300
                                          replace q300 := eq_true q300
                                          have p301 : 0 ≤ (x9_3 : Int) := of_decide_eq_true (by first | (with_reducible assumption) | assumption)
                                          have q301 : x9_3 < ((rd_L1 t275 t271).length : Int) := of_decide_eq_true (by first | (with_reducible assumption) | assumption)
                                          obtain ⟨ad301, e301, hx301_0⟩ := Kd.at_bool (by repeat (first | (with_reducible exact HR300_0.out) | (with_reducible refine Kd.C_alloc ?_ _) | (with_reducible refine Kd.C_drewN ?_ _) | (with_reducible refine Kd.C_drew ?_) | exact HR300_0.out)) x9_3 p301 q301
                                          (try rw [← Nbq51.out] at hx301_0)
                                          (try rw [← Nbq56.out] at hx301_0)
                                          cases e301
                                          replace p301 := eq_true p301
                                          replace q301 := eq_true q301
                                          go_wp2
                                          go_roundg k3
                                          case measure => have := HK1.out; have := HK2.out; have := HK3.out; omega
                                          case rel => exact ⟨(wrap64 (x7_3 + 1)), (wrap64 (x9_3 + 1)), (by first | rfl | (simp; done) | (simp [*]; done)), (by first | rfl | (simp; done) | (simp [*]; done)), H', ⟨by have := HK1.out; have := HK2.out; have := HK3.out; omega⟩, ⟨by (with_reducible repeat (first | apply Kd.R_alloc | apply Kd.R_drewN | apply Kd.R_drew)); exact HO_4.out⟩, ⟨by (with_reducible repeat (first | apply Kd.Q_alloc | apply Kd.Q_drewN | apply Kd.Q_drew)); exact HO_279002.out⟩, ⟨by (with_reducible repeat (first | apply Kd.S_alloc | apply Kd.S_drewN | apply Kd.S_drew)); exact HO_279003.out⟩, ⟨by (with_reducible repeat (first | refine blk_drewN ?_ _ | refine blk_drew ?_ | refine blk_alloc ?_ _)); exact BK278.out⟩, ⟨by repeat (first | (with_reducible first | exact HB.out | apply below_alloc | apply pw_below_drewN | apply below_drew1 | refine below_set ?_ GE278.out) | exact HB.out)⟩⟩
                                      · rw [if_neg c55] at H
                                        exact absurd H (by simp)
                                    · rw [if_neg c54] at H
                                      exact absurd H (by simp)
                                  · rw [if_neg c53] at H
                                    exact absurd H (by simp)
                                · replace c52 := Bool.eq_false_iff.mpr c52
                                  subst c52
                                  have H1 : (if 0 ≤ t271 then (if t271 < (t275.length : Int) then (if x9_3 < ((rd_L1 t275 t271).length : Int) then (if rdOf false (rd_L1 t275 t271) x9_3 = true then (laws_FnLoopClues.l2 k3 t279 x5_1 (wrap64 (x7_3 + 1)) (wrap64 (x9_3 + 1)) t270 t271 t272 t275) else (laws_FnLoopClues.l2 k3 t279 x5_1 x7_3 (wrap64 (x9_3 + 1)) t270 t271 t272 t275)) else (none)) else (none)) else (none)) = some r := by rw [if_neg (show ¬ (false = true) by decide)] at H; exact H
                                  clear H
                                  have H := H1
                                  clear H1
                                  by_cases c60 : 0 ≤ t271
                                  · rw [if_pos c60] at H
                                    have c60b0 : decide (0 ≤ t271) = true := decide_eq_true c60
                                    clear c60
                                    by_cases c61 : t271 < (t275.length : Int)
                                    · rw [if_pos c61] at H
                                      have c61b0 : decide (t271 < (t275.length : Int)) = true := decide_eq_true c61
                                      clear c61
                                      by_cases c62 : x9_3 < ((rd_L1 t275 t271).length : Int)
                                      · rw [if_pos c62] at H
                                        have c62b0 : decide (x9_3 < ((rd_L1 t275 t271).length : Int)) = true := decide_eq_true c62
                                        clear c62
                                        obtain ⟨bq63, hbq63⟩ : ∃ b_ : Bool, b_ = (rdOf false (rd_L1 t275 t271) x9_3) := ⟨_, rfl⟩
                                        replace H : (if bq63 = true then (laws_FnLoopClues.l2 k3 t279 x5_1 (wrap64 (x7_3 + 1)) (wrap64 (x9_3 + 1)) t270 t271 t272 t275) else (laws_FnLoopClues.l2 k3 t279 x5_1 x7_3 (wrap64 (x9_3 + 1)) t270 t271 t272 t275)) = some r := by rw [← hbq63] at H; exact H
                                        have Nbq63 := Aside0.mk hbq63
                                        clear hbq63
                                        by_cases c64 : bq63 = true
                                        · subst c64
                                          have H1 : (laws_FnLoopClues.l2 k3 t279 x5_1 (wrap64 (x7_3 + 1)) (wrap64 (x9_3 + 1)) t270 t271 t272 t275) = some r := by rw [if_pos rfl] at H; exact H
                                          clear H
                                          have H := H1
                                          clear H1
                                          have H' := Aside0.mk H
                                          clear H
                                          have hcz65_0 : wr.cell? ⟨gb278, 0, none⟩ = some (.int .i64 t270) := (blk_cell BK278.out 0).trans rfl
                                          have hcz65_1 : wr.cell? ⟨gb278, 1, none⟩ = some (.int .i64 t271) := (blk_cell BK278.out 1).trans rfl
                                          have hcz65_2 : wr.cell? ⟨gb278, 2, none⟩ = some (.slice Ao13 t272.length co13) := (blk_cell BK278.out 2).trans rfl
                                          have hcz65_3 : wr.cell? ⟨gb278, 3, none⟩ = some (.slice Ao14 t275.length co14) := (blk_cell BK278.out 3).trans rfl
                                          have hfz65_0 := blk_frozen BK278.out 0
                                          have hfz65_1 := blk_frozen BK278.out 1
                                          have hfz65_2 := blk_frozen BK278.out 2
                                          have hfz65_3 := blk_frozen BK278.out 3
                                          have p298 : 0 ≤ (0 : Int) := (by omega)
                                          have q298 : 0 < (t275.length : Int) := of_decide_eq_true (by first | (with_reducible assumption) | assumption)
                                          obtain ⟨ad298, A298_0, c298_0, e298, hx298_0, hl298_0, hi298_0⟩ := at_L1 (Kd.S_reads' HO_279003.out).2.2 0 p298 q298
                                          cases e298
                                          obtain ⟨ce298, hce298, hMe298, hcc298⟩ := Kd.S_get HO_279003.out [] 0 p298 (by first | exact q298 | exact of_decide_eq_true (by first | (with_reducible assumption) | assumption) | (have e_ := (Kd.S_reads' HO_279003.out).1; omega))
                                          obtain ⟨ve298_0, rfl, ge298_0⟩ := hMe298
                                          have hv298_0 := hcc298 0 _ rfl
                                          rw [Nat.add_zero, show ((Kd.slice 4 Kd.bool)).sz = 1 from rfl, Nat.mul_one] at hv298_0
                                          replace hv298_0 := Option.some.inj (hv298_0.symm.trans hx298_0)
                                          rw [hv298_0] at ge298_0
                                          have HL298_0 := Aside0.mk (show Kd.R Kd.bool 4 _ _ _ _ (rd_L1 t275 0) from ge298_0)
                                          clear hv298_0 ge298_0
                                          clear hcc298 hce298
                                          have qi298 : (0 < t275.length) = True := eq_true (by omega)
                                          (try rw [show ((0 : Int)).toNat = 0 from rfl] at hx298_0)
                                          (try rw [Addr.add_zero'] at hx298_0)
                                          have HR298_0 := Aside0.mk hi298_0
                                          have HC298_0 := Aside0.mk hl298_0
                                          clear hi298_0 hl298_0
                                          replace p298 := eq_true p298
                                          replace q298 := eq_true q298
                                          have p299 : 0 ≤ (x9_3 : Int) := of_decide_eq_true (by first | (with_reducible assumption) | assumption)
                                          have q299 : x9_3 < ((rd_L1 t275 0).length : Int) := of_decide_eq_true (by first | (with_reducible assumption) | assumption)
                                          obtain ⟨ad299, e299, hx299_0⟩ := Kd.at_bool (by repeat (first | (with_reducible exact HR298_0.out) | (with_reducible refine Kd.C_alloc ?_ _) | (with_reducible refine Kd.C_drewN ?_ _) | (with_reducible refine Kd.C_drew ?_) | exact HR298_0.out)) x9_3 p299 q299
                                          (try rw [← Nbq51.out] at hx299_0)
                                          (try rw [← Nbq63.out] at hx299_0)
                                          cases e299
                                          replace p299 := eq_true p299
                                          replace q299 := eq_true q299
                                          have p302 : 0 ≤ (t271 : Int) := of_decide_eq_true (by first | (with_reducible assumption) | assumption)
                                          have q302 : t271 < (t275.length : Int) := of_decide_eq_true (by first | (with_reducible assumption) | assumption)
                                          obtain ⟨ad302, A302_0, c302_0, e302, hx302_0, hl302_0, hi302_0⟩ := at_L1 (Kd.S_reads' HO_279003.out).2.2 t271 p302 q302
                                          obtain rfl : ad298 = ad302 := (by injection e302)
                                          obtain ⟨ce302, hce302, hMe302, hcc302⟩ := Kd.S_get HO_279003.out [] t271 p302 (by first | exact q302 | exact of_decide_eq_true (by first | (with_reducible assumption) | assumption) | (have e_ := (Kd.S_reads' HO_279003.out).1; omega))
                                          obtain ⟨ve302_0, rfl, ge302_0⟩ := hMe302
                                          have hv302_0 := hcc302 0 _ rfl
                                          rw [Nat.add_zero, show ((Kd.slice 4 Kd.bool)).sz = 1 from rfl, Nat.mul_one] at hv302_0
                                          replace hv302_0 := Option.some.inj (hv302_0.symm.trans hx302_0)
                                          rw [hv302_0] at ge302_0
                                          have HL302_0 := Aside0.mk (show Kd.R Kd.bool 4 _ _ _ _ (rd_L1 t275 t271) from ge302_0)
                                          clear hv302_0 ge302_0
                                          clear hcc302 hce302
                                          have HR302_0 := Aside0.mk hi302_0
                                          have HC302_0 := Aside0.mk hl302_0
                                          clear hi302_0 hl302_0
                                          replace p302 := eq_true p302
                                          replace q302 := eq_true q302
                                          have p303 : 0 ≤ (x9_3 : Int) := of_decide_eq_true (by first | (with_reducible assumption) | assumption)
                                          have q303 : x9_3 < ((rd_L1 t275 t271).length : Int) := of_decide_eq_true (by first | (with_reducible assumption) | assumption)
                                          obtain ⟨ad303, e303, hx303_0⟩ := Kd.at_bool (by repeat (first | (with_reducible exact HR302_0.out) | (with_reducible refine Kd.C_alloc ?_ _) | (with_reducible refine Kd.C_drewN ?_ _) | (with_reducible refine Kd.C_drew ?_) | exact HR302_0.out)) x9_3 p303 q303
                                          (try rw [← Nbq51.out] at hx303_0)
                                          (try rw [← Nbq63.out] at hx303_0)
                                          cases e303
                                          replace p303 := eq_true p303
                                          replace q303 := eq_true q303
                                          go_wp2
                                          go_roundg k3
                                          case measure => have := HK1.out; have := HK2.out; have := HK3.out; omega
                                          case rel => exact ⟨(wrap64 (x7_3 + 1)), (wrap64 (x9_3 + 1)), (by first | rfl | (simp; done) | (simp [*]; done)), (by first | rfl | (simp; done) | (simp [*]; done)), H', ⟨by have := HK1.out; have := HK2.out; have := HK3.out; omega⟩, ⟨by (with_reducible repeat (first | apply Kd.R_alloc | apply Kd.R_drewN | apply Kd.R_drew)); exact HO_4.out⟩, ⟨by (with_reducible repeat (first | apply Kd.Q_alloc | apply Kd.Q_drewN | apply Kd.Q_drew)); exact HO_279002.out⟩, ⟨by (with_reducible repeat (first | apply Kd.S_alloc | apply Kd.S_drewN | apply Kd.S_drew)); exact HO_279003.out⟩, ⟨by (with_reducible repeat (first | refine blk_drewN ?_ _ | refine blk_drew ?_ | refine blk_alloc ?_ _)); exact BK278.out⟩, ⟨by repeat (first | (with_reducible first | exact HB.out | apply below_alloc | apply pw_below_drewN | apply below_drew1 | refine below_set ?_ GE278.out) | exact HB.out)⟩⟩
                                        · replace c64 := Bool.eq_false_iff.mpr c64
                                          subst c64
                                          have H1 : (laws_FnLoopClues.l2 k3 t279 x5_1 x7_3 (wrap64 (x9_3 + 1)) t270 t271 t272 t275) = some r := by rw [if_neg (show ¬ (false = true) by decide)] at H; exact H
                                          clear H
                                          have H := H1
                                          clear H1
                                          have H' := Aside0.mk H
                                          clear H
                                          have hcz66_0 : wr.cell? ⟨gb278, 0, none⟩ = some (.int .i64 t270) := (blk_cell BK278.out 0).trans rfl
                                          have hcz66_1 : wr.cell? ⟨gb278, 1, none⟩ = some (.int .i64 t271) := (blk_cell BK278.out 1).trans rfl
                                          have hcz66_2 : wr.cell? ⟨gb278, 2, none⟩ = some (.slice Ao13 t272.length co13) := (blk_cell BK278.out 2).trans rfl
                                          have hcz66_3 : wr.cell? ⟨gb278, 3, none⟩ = some (.slice Ao14 t275.length co14) := (blk_cell BK278.out 3).trans rfl
                                          have hfz66_0 := blk_frozen BK278.out 0
                                          have hfz66_1 := blk_frozen BK278.out 1
                                          have hfz66_2 := blk_frozen BK278.out 2
                                          have hfz66_3 := blk_frozen BK278.out 3
                                          have p298 : 0 ≤ (0 : Int) := (by omega)
                                          have q298 : 0 < (t275.length : Int) := of_decide_eq_true (by first | (with_reducible assumption) | assumption)
                                          obtain ⟨ad298, A298_0, c298_0, e298, hx298_0, hl298_0, hi298_0⟩ := at_L1 (Kd.S_reads' HO_279003.out).2.2 0 p298 q298
                                          cases e298
                                          obtain ⟨ce298, hce298, hMe298, hcc298⟩ := Kd.S_get HO_279003.out [] 0 p298 (by first | exact q298 | exact of_decide_eq_true (by first | (with_reducible assumption) | assumption) | (have e_ := (Kd.S_reads' HO_279003.out).1; omega))
                                          obtain ⟨ve298_0, rfl, ge298_0⟩ := hMe298
                                          have hv298_0 := hcc298 0 _ rfl
                                          rw [Nat.add_zero, show ((Kd.slice 4 Kd.bool)).sz = 1 from rfl, Nat.mul_one] at hv298_0
                                          replace hv298_0 := Option.some.inj (hv298_0.symm.trans hx298_0)
                                          rw [hv298_0] at ge298_0
                                          have HL298_0 := Aside0.mk (show Kd.R Kd.bool 4 _ _ _ _ (rd_L1 t275 0) from ge298_0)
                                          clear hv298_0 ge298_0
                                          clear hcc298 hce298
                                          have qi298 : (0 < t275.length) = True := eq_true (by omega)
                                          (try rw [show ((0 : Int)).toNat = 0 from rfl] at hx298_0)
                                          (try rw [Addr.add_zero'] at hx298_0)
                                          have HR298_0 := Aside0.mk hi298_0
                                          have HC298_0 := Aside0.mk hl298_0
                                          clear hi298_0 hl298_0
                                          replace p298 := eq_true p298
                                          replace q298 := eq_true q298
                                          have p299 : 0 ≤ (x9_3 : Int) := of_decide_eq_true (by first | (with_reducible assumption) | assumption)
                                          have q299 : x9_3 < ((rd_L1 t275 0).length : Int) := of_decide_eq_true (by first | (with_reducible assumption) | assumption)
                                          obtain ⟨ad299, e299, hx299_0⟩ := Kd.at_bool (by repeat (first | (with_reducible exact HR298_0.out) | (with_reducible refine Kd.C_alloc ?_ _) | (with_reducible refine Kd.C_drewN ?_ _) | (with_reducible refine Kd.C_drew ?_) | exact HR298_0.out)) x9_3 p299 q299
                                          (try rw [← Nbq51.out] at hx299_0)
                                          (try rw [← Nbq63.out] at hx299_0)
                                          cases e299
                                          replace p299 := eq_true p299
                                          replace q299 := eq_true q299
                                          have p302 : 0 ≤ (t271 : Int) := of_decide_eq_true (by first | (with_reducible assumption) | assumption)
                                          have q302 : t271 < (t275.length : Int) := of_decide_eq_true (by first | (with_reducible assumption) | assumption)
                                          obtain ⟨ad302, A302_0, c302_0, e302, hx302_0, hl302_0, hi302_0⟩ := at_L1 (Kd.S_reads' HO_279003.out).2.2 t271 p302 q302
                                          obtain rfl : ad298 = ad302 := (by injection e302)
                                          obtain ⟨ce302, hce302, hMe302, hcc302⟩ := Kd.S_get HO_279003.out [] t271 p302 (by first | exact q302 | exact of_decide_eq_true (by first | (with_reducible assumption) | assumption) | (have e_ := (Kd.S_reads' HO_279003.out).1; omega))
                                          obtain ⟨ve302_0, rfl, ge302_0⟩ := hMe302
                                          have hv302_0 := hcc302 0 _ rfl
                                          rw [Nat.add_zero, show ((Kd.slice 4 Kd.bool)).sz = 1 from rfl, Nat.mul_one] at hv302_0
                                          replace hv302_0 := Option.some.inj (hv302_0.symm.trans hx302_0)
                                          rw [hv302_0] at ge302_0
                                          have HL302_0 := Aside0.mk (show Kd.R Kd.bool 4 _ _ _ _ (rd_L1 t275 t271) from ge302_0)
                                          clear hv302_0 ge302_0
                                          clear hcc302 hce302
                                          have HR302_0 := Aside0.mk hi302_0
                                          have HC302_0 := Aside0.mk hl302_0
                                          clear hi302_0 hl302_0
                                          replace p302 := eq_true p302
                                          replace q302 := eq_true q302
                                          have p303 : 0 ≤ (x9_3 : Int) := of_decide_eq_true (by first | (with_reducible assumption) | assumption)
                                          have q303 : x9_3 < ((rd_L1 t275 t271).length : Int) := of_decide_eq_true (by first | (with_reducible assumption) | assumption)
                                          obtain ⟨ad303, e303, hx303_0⟩ := Kd.at_bool (by repeat (first | (with_reducible exact HR302_0.out) | (with_reducible refine Kd.C_alloc ?_ _) | (with_reducible refine Kd.C_drewN ?_ _) | (with_reducible refine Kd.C_drew ?_) | exact HR302_0.out)) x9_3 p303 q303
                                          (try rw [← Nbq51.out] at hx303_0)
                                          (try rw [← Nbq63.out] at hx303_0)
                                          cases e303
                                          replace p303 := eq_true p303
                                          replace q303 := eq_true q303
                                          go_wp2
                                          go_roundg k3
                                          case measure => have := HK1.out; have := HK2.out; have := HK3.out; omega
                                          case rel => exact ⟨(x7_3), (wrap64 (x9_3 + 1)), (by first | rfl | (simp; done) | (simp [*]; done)), (by first | rfl | (simp; done) | (simp [*]; done)), H', ⟨by have := HK1.out; have := HK2.out; have := HK3.out; omega⟩, ⟨by (with_reducible repeat (first | apply Kd.R_alloc | apply Kd.R_drewN | apply Kd.R_drew)); exact HO_4.out⟩, ⟨by (with_reducible repeat (first | apply Kd.Q_alloc | apply Kd.Q_drewN | apply Kd.Q_drew)); exact HO_279002.out⟩, ⟨by (with_reducible repeat (first | apply Kd.S_alloc | apply Kd.S_drewN | apply Kd.S_drew)); exact HO_279003.out⟩, ⟨by (with_reducible repeat (first | refine blk_drewN ?_ _ | refine blk_drew ?_ | refine blk_alloc ?_ _)); exact BK278.out⟩, ⟨by repeat (first | (with_reducible first | exact HB.out | apply below_alloc | apply pw_below_drewN | apply below_drew1 | refine below_set ?_ GE278.out) | exact HB.out)⟩⟩
                                      · rw [if_neg c62] at H
                                        exact absurd H (by simp)
                                    · rw [if_neg c61] at H
                                      exact absurd H (by simp)
                                  · rw [if_neg c60] at H
                                    exact absurd H (by simp)
                              · rw [if_neg c50] at H
                                exact absurd H (by simp)
                            · rw [if_neg c49] at H
                              exact absurd H (by simp)
                          · rw [if_neg c48] at H
                            exact absurd H (by simp)
                        · rw [if_neg c47] at H
                          have c47b0 : decide (x9_3 < t270) = false := decide_eq_false c47
                          clear c47
                          by_cases c67 : (t279.length : Int) = (wrap64 (t270 * t271))
                          · rw [if_pos c67] at H
                            have c67b0 : ((t279.length : Int) == (wrap64 (t270 * t271))) = true := beq_iff_eq.mpr c67
                            have c67b1 : ((t279.length : Int) != (wrap64 (t270 * t271))) = false := bne_eq_false_iff_eq.mpr c67
                            clear c67
                            replace H := Option.bind_eq_some_iff.mp H
                            obtain ⟨t297, A680, H⟩ := H
                            replace H : (some (x5_1 == (wrap64 ((wrap64 (2 * t297)) - x7_3)))) = some r := H
                            have A68 := Aside0.mk A680
                            clear A680
                            obtain rfl := Option.some.inj H
                            have hcz69_0 : wr.cell? ⟨gb278, 0, none⟩ = some (.int .i64 t270) := (blk_cell BK278.out 0).trans rfl
                            have hcz69_1 : wr.cell? ⟨gb278, 1, none⟩ = some (.int .i64 t271) := (blk_cell BK278.out 1).trans rfl
                            have hcz69_2 : wr.cell? ⟨gb278, 2, none⟩ = some (.slice Ao13 t272.length co13) := (blk_cell BK278.out 2).trans rfl
                            have hcz69_3 : wr.cell? ⟨gb278, 3, none⟩ = some (.slice Ao14 t275.length co14) := (blk_cell BK278.out 3).trans rfl
                            have hfz69_0 := blk_frozen BK278.out 0
                            have hfz69_1 := blk_frozen BK278.out 1
                            have hfz69_2 := blk_frozen BK278.out 2
                            have hfz69_3 := blk_frozen BK278.out 3
                            go_wp2_with (first | (go_at_call 21; (with_reducible refine (impl_LoopLength.calls k3 t270 t271 _ _ t272 _ _ t275 t297 _ ?side1 ?side2 ?side3 ?side4 A68.out).mono ?_); (case side1 => repeat (first | exact (Kd.Q_reads' HO_279002.out).2.2 | (with_reducible refine Kd.C_alloc ?_ _) | (with_reducible refine Kd.C_drewN ?_ _) | (with_reducible refine Kd.C_drew ?_))); (case side2 => exact (Kd.Q_reads' HO_279002.out).2.1); (case side3 => repeat (first | exact (Kd.S_reads' HO_279003.out).2.2 | (with_reducible refine Kd.C_alloc ?_ _) | (with_reducible refine Kd.C_drewN ?_ _) | (with_reducible refine Kd.C_drew ?_))); (case side4 => exact (Kd.S_reads' HO_279003.out).2.1); rintro e w70 ⟨rfl, hb⟩; have n0_ := Aside0.mk (Kd.R_below (by (with_reducible repeat (first | apply Kd.R_alloc | apply Kd.R_drewN | apply Kd.R_drew)); exact HO_4.out) hb); have n1_ := Aside0.mk (Kd.Q_below (by (with_reducible repeat (first | apply Kd.Q_alloc | apply Kd.Q_drewN | apply Kd.Q_drew)); exact HO_279002.out) hb); have n2_ := Aside0.mk (Kd.S_below (by (with_reducible repeat (first | apply Kd.S_alloc | apply Kd.S_drewN | apply Kd.S_drew)); exact HO_279003.out) hb); have n3_ := Aside0.mk (blk_below (g := gb278) (o := .cells #[.int .i64 t270, .int .i64 t271, .slice Ao13 t272.length co13, .slice Ao14 t275.length co14] 27 (0, 0)) (by (with_reducible repeat (first | refine blk_drewN ?_ _ | refine blk_drew ?_ | refine blk_alloc ?_ _)); exact BK278.out) hb); have n4_ := Aside0.mk (below_step (by repeat (first | (with_reducible first | exact HB.out | apply below_alloc | apply pw_below_drewN | apply below_drew1 | refine below_set ?_ GE278.out) | exact HB.out)) hb); clear HO_4; clear HO_279002; clear HO_279003; clear BK278; clear HB; have HO_4 := n0_; have HO_279002 := n1_; have HO_279003 := n2_; have BK278 := n3_; have HB := n4_; clear n0_ n1_ n2_ n3_ n4_; (try clear hb); (try clear hb2); (try clear hk); (try clear hi)))
                            go_ret
                            exact ⟨by first | rfl | (simp [errW_none, errW_some] <;> rfl) | (simp [*, errW_none, errW_some] <;> rfl), by repeat (first | (with_reducible first | exact HB.out | apply below_alloc | apply pw_below_drewN | apply below_drew1 | refine below_set ?_ GE278.out) | exact HB.out)⟩
                          · rw [if_neg c67] at H
                            have c67b0 : ((t279.length : Int) == (wrap64 (t270 * t271))) = false := beq_eq_false_iff_ne.mpr c67
                            have c67b1 : ((t279.length : Int) != (wrap64 (t270 * t271))) = true := bne_iff_ne.mpr c67
                            obtain rfl := Option.some.inj H
                            have hcz71_0 : wr.cell? ⟨gb278, 0, none⟩ = some (.int .i64 t270) := (blk_cell BK278.out 0).trans rfl
                            have hcz71_1 : wr.cell? ⟨gb278, 1, none⟩ = some (.int .i64 t271) := (blk_cell BK278.out 1).trans rfl
                            have hcz71_2 : wr.cell? ⟨gb278, 2, none⟩ = some (.slice Ao13 t272.length co13) := (blk_cell BK278.out 2).trans rfl
                            have hcz71_3 : wr.cell? ⟨gb278, 3, none⟩ = some (.slice Ao14 t275.length co14) := (blk_cell BK278.out 3).trans rfl
                            have hfz71_0 := blk_frozen BK278.out 0
                            have hfz71_1 := blk_frozen BK278.out 1
                            have hfz71_2 := blk_frozen BK278.out 2
                            have hfz71_3 := blk_frozen BK278.out 3
                            go_wp2
                            go_ret
                            exact ⟨by first | rfl | (simp [errW_none, errW_some] <;> rfl) | (simp [*, errW_none, errW_some] <;> rfl), by repeat (first | (with_reducible first | exact HB.out | apply below_alloc | apply pw_below_drewN | apply below_drew1 | refine below_set ?_ GE278.out) | exact HB.out)⟩
      · replace c9 := Bool.eq_false_iff.mpr c9
        subst c9
        have H1 : (if (t279.length : Int) = 0 then ((laws_alive.f k).bind fun t287 => (some t287)) else (some false)) = some r := by rw [if_neg (show ¬ (false = true) by decide)] at H; exact H
        clear H
        have H := H1
        clear H1
        by_cases c72 : (t279.length : Int) = 0
        · rw [if_pos c72] at H
          have c72b0 : ((t279.length : Int) == 0) = true := beq_iff_eq.mpr c72
          have c72b1 : ((t279.length : Int) != 0) = false := bne_eq_false_iff_eq.mpr c72
          clear c72
          replace H := Option.bind_eq_some_iff.mp H
          obtain ⟨t287, A730, H⟩ := H
          replace H : (some t287) = some r := H
          have A73 := Aside0.mk A730
          clear A730
          obtain rfl := Option.some.inj H
          go_enter Try.func6, Try.ntmps6
          go_wp2_with (first | ((with_reducible refine gate_callee (f := 34) rfl ?_); refine goesL_ (some 14) rfl rfl Try.func34 (by kernel_rfl) rfl #[.slice A0 l0.length c0] rfl (by (try simp only [List.map_toArray, List.map_cons, List.map_nil]); first | done | rfl | (simp only [List.length_drop, List.length_take]; rfl)) ?_; (with_reducible refine (spec_DrawLoopClues.calls k _ _ l0 t270 t271 t272 t275 _ ?side1 ?side2 A3.out).mono ?_); (case side1 => repeat (first | exact HR0.out | (with_reducible refine Kd.C_alloc ?_ _) | (with_reducible refine Kd.C_drewN ?_ _) | (with_reducible refine Kd.C_drew ?_))); (case side2 => exact HC0.out); rintro e w74 ⟨v273, v276, rfl, ho0, ho1, hb⟩; refine ⟨_, rfl, ?_⟩; have n0_ := Aside0.mk (Kd.Q_lower ho0 (below_size (by repeat (first | (with_reducible first | exact HB.out | apply below_alloc | apply pw_below_drewN | apply below_drew1) | exact HB.out)))); have n1_ := Aside0.mk (Kd.S_lower ho1 (below_size (by repeat (first | (with_reducible first | exact HB.out | apply below_alloc | apply pw_below_drewN | apply below_drew1) | exact HB.out)))); have n2_ := Aside0.mk (below_step (by repeat (first | (with_reducible first | exact HB.out | apply below_alloc | apply pw_below_drewN | apply below_drew1) | exact HB.out)) hb); clear HB; have HO274 := n0_; have HO277 := n1_; have HB := n2_; clear n0_ n1_ n2_; (try clear hb); (try clear hb2); (try clear hk); (try clear hi); (try clear ho0); (try clear ho1)) | ((with_reducible refine gate_dst (N := 3) rfl ?_); refine box_event ?hg (N := 3) ?hd (cs := #[.int .i64 0, .int .i64 0, .slice none 0 0, .slice none 0 0]) (t := 27) ?hr ?_; (case hd => rfl); (case hg => rfl); (case hr => first | (go_simp; done) | (go_simp; rfl)); intro gb278 hg w75 hbox hb; have n0_ := Aside0.mk (Kd.Q_below (by (with_reducible repeat (first | apply Kd.Q_alloc | apply Kd.Q_drewN | apply Kd.Q_drew)); exact HO274.out) hb); have n1_ := Aside0.mk (Kd.S_below (by (with_reducible repeat (first | apply Kd.S_alloc | apply Kd.S_drewN | apply Kd.S_drew)); exact HO277.out) hb); have n2_ := Aside0.mk (below_step (by repeat (first | (with_reducible first | exact HB.out | apply below_alloc | apply pw_below_drewN | apply below_drew1) | exact HB.out)) hb); have n3_ := Aside0.mk (hbox); have n4_ := Aside0.mk ((by rw [hg]; exact (below_size (by repeat (first | (with_reducible first | exact HB.out | apply below_alloc | apply pw_below_drewN | apply below_drew1) | exact HB.out))) : w.heap.size ≤ gb278)); have n5_ := Aside0.mk ((by rw [hg]; exact (below_size (by repeat (first | (with_reducible first | exact HB.out | apply below_alloc | apply pw_below_drewN | apply below_drew1) | exact HB.out))) : w.heap.size ≤ gb278)); clear HO274; clear HO277; clear HB; have HO274 := n0_; have HO277 := n1_; have HB := n2_; have BK278 := n3_; have GW278 := n4_; have GE278 := n5_; clear n0_ n1_ n2_ n3_ n4_ n5_; clear hb hbox hg; have hcz76_0 : w75.cell? ⟨gb278, 0, none⟩ = some (.int .i64 0) := (blk_cell BK278.out 0).trans rfl; have hcz76_1 : w75.cell? ⟨gb278, 1, none⟩ = some (.int .i64 0) := (blk_cell BK278.out 1).trans rfl; have hcz76_2 : w75.cell? ⟨gb278, 2, none⟩ = some (.slice none 0 0) := (blk_cell BK278.out 2).trans rfl; have hcz76_3 : w75.cell? ⟨gb278, 3, none⟩ = some (.slice none 0 0) := (blk_cell BK278.out 3).trans rfl; have hfz76_0 := blk_frozen BK278.out 0; have hfz76_1 := blk_frozen BK278.out 1; have hfz76_2 := blk_frozen BK278.out 2; have hfz76_3 := blk_frozen BK278.out 3; obtain ⟨Ao77, co77, eo77, _⟩ := Kd.Q_slice HO274.out; subst eo77; obtain ⟨Ao78, co78, eo78⟩ := Kd.S_slice HO277.out; subst eo78) | ((with_reducible refine gate_callee (f := 29) rfl ?_); refine goesL_ (some 16) rfl rfl Try.func29 (by kernel_rfl) rfl #[.agg #[.int .i64 t270, .int .i64 t271, .slice Ao77 t272.length co77, .slice Ao78 t275.length co78]] rfl (by (try simp only [List.map_toArray, List.map_cons, List.map_nil]); first | done | rfl | (simp only [List.length_drop, List.length_take]; rfl)) ?_; (with_reducible refine (impl_LoopClues.calls k t270 t271 _ _ t272 _ _ t275 t279 _ ?side1 ?side2 ?side3 ?side4 A4.out).mono ?_); (case side1 => refine (Kd.Q_reads' (e := 45) (base := w.heap.size) (ok := fun k_ => some k_ ≠ (.slice Ao78 t275.length co78 : Value).ownBlock) (n := t272.length) (c := co77) ?_).2.2; exact (by (with_reducible repeat (first | apply Kd.Q_alloc | apply Kd.Q_drewN | apply Kd.Q_drew)); exact (Kd.Q_mono (Kd.Q_far (p := ⟨gb278, 3, none⟩) (Kd.Q_far (p := ⟨gb278, 2, none⟩) (Kd.Q_far (p := ⟨gb278, 1, none⟩) (Kd.Q_far (p := ⟨gb278, 0, none⟩) (Kd.Q_types HO274.out BK278.out (by decide)) (fun _ hk => hk.2) (.int .i64 t270)) (fun _ hk => hk.2) (.int .i64 t271)) (fun _ hk => hk.2) (.slice Ao77 t272.length co77)) (fun _ hk => hk.2) (.slice Ao78 t275.length co78)) (fun _ h_ => h_.1)))); (case side2 => exact (Kd.Q_reads' HO274.out).2.1); (case side3 => refine (Kd.S_reads' (e := 45) (base := w.heap.size) (ok := fun k_ => some k_ ≠ (.slice Ao77 t272.length co77 : Value).ownBlock) (n := t275.length) (c := co78) ?_).2.2; exact (by (with_reducible repeat (first | apply Kd.S_alloc | apply Kd.S_drewN | apply Kd.S_drew)); exact (Kd.S_mono (Kd.S_far (p := ⟨gb278, 3, none⟩) (Kd.S_far (p := ⟨gb278, 2, none⟩) (Kd.S_far (p := ⟨gb278, 1, none⟩) (Kd.S_far (p := ⟨gb278, 0, none⟩) (Kd.S_types HO277.out BK278.out (by decide)) (fun _ hk => hk.2) (.int .i64 t270)) (fun _ hk => hk.2) (.int .i64 t271)) (fun _ hk => hk.2) (.slice Ao77 t272.length co77)) (fun _ hk => hk.2) (.slice Ao78 t275.length co78)) (fun _ h_ => h_.1)))); (case side4 => exact (Kd.S_reads' HO277.out).2.1); rintro e w79 ⟨v280, rfl, ho0, hb⟩; refine ⟨_, rfl, ?_⟩; have n0_ := Aside0.mk (Kd.Q_below (by (with_reducible repeat (first | apply Kd.Q_alloc | apply Kd.Q_drewN | apply Kd.Q_drew)); exact (Kd.Q_mono (Kd.Q_far (p := ⟨gb278, 3, none⟩) (Kd.Q_far (p := ⟨gb278, 2, none⟩) (Kd.Q_far (p := ⟨gb278, 1, none⟩) (Kd.Q_far (p := ⟨gb278, 0, none⟩) (Kd.Q_types HO274.out BK278.out (by decide)) (fun _ hk => hk.2) (.int .i64 t270)) (fun _ hk => hk.2) (.int .i64 t271)) (fun _ hk => hk.2) (.slice Ao77 t272.length co77)) (fun _ hk => hk.2) (.slice Ao78 t275.length co78)) (fun _ h_ => h_.1))) hb); have n1_ := Aside0.mk (Kd.S_below (by (with_reducible repeat (first | apply Kd.S_alloc | apply Kd.S_drewN | apply Kd.S_drew)); exact (Kd.S_mono (Kd.S_far (p := ⟨gb278, 3, none⟩) (Kd.S_far (p := ⟨gb278, 2, none⟩) (Kd.S_far (p := ⟨gb278, 1, none⟩) (Kd.S_far (p := ⟨gb278, 0, none⟩) (Kd.S_types HO277.out BK278.out (by decide)) (fun _ hk => hk.2) (.int .i64 t270)) (fun _ hk => hk.2) (.int .i64 t271)) (fun _ hk => hk.2) (.slice Ao77 t272.length co77)) (fun _ hk => hk.2) (.slice Ao78 t275.length co78)) (fun _ h_ => h_.1))) hb); have n2_ := Aside0.mk (Kd.R_lower ho0 (below_size (by repeat (first | (with_reducible first | exact HB.out | apply below_alloc | apply pw_below_drewN | apply below_drew1 | refine below_set ?_ GE278.out) | exact HB.out)))); have n3_ := Aside0.mk (blk_below (g := gb278) (o := .cells #[.int .i64 t270, .int .i64 t271, .slice Ao77 t272.length co77, .slice Ao78 t275.length co78] 27 (0, 0)) (by (with_reducible repeat (first | refine blk_drewN ?_ _ | refine blk_drew ?_ | refine blk_alloc ?_ _)); refine blk_put (cs := #[.int .i64 t270, .int .i64 t271, .slice Ao77 t272.length co77, .slice none 0 0]) ?_ 3 _ rfl; (with_reducible repeat (first | refine blk_drewN ?_ _ | refine blk_drew ?_ | refine blk_alloc ?_ _)); refine blk_put (cs := #[.int .i64 t270, .int .i64 t271, .slice none 0 0, .slice none 0 0]) ?_ 2 _ rfl; (with_reducible repeat (first | refine blk_drewN ?_ _ | refine blk_drew ?_ | refine blk_alloc ?_ _)); refine blk_put (cs := #[.int .i64 t270, .int .i64 0, .slice none 0 0, .slice none 0 0]) ?_ 1 _ rfl; (with_reducible repeat (first | refine blk_drewN ?_ _ | refine blk_drew ?_ | refine blk_alloc ?_ _)); refine blk_put (cs := #[.int .i64 0, .int .i64 0, .slice none 0 0, .slice none 0 0]) ?_ 0 _ rfl; (with_reducible repeat (first | refine blk_drewN ?_ _ | refine blk_drew ?_ | refine blk_alloc ?_ _)); exact BK278.out) hb); have n4_ := Aside0.mk (below_step (by repeat (first | (with_reducible first | exact HB.out | apply below_alloc | apply pw_below_drewN | apply below_drew1 | refine below_set ?_ GE278.out) | exact HB.out)) hb); clear HO274; clear HO277; clear BK278; clear HB; have HO274 := n0_; have HO277 := n1_; have HO281 := n2_; have BK278 := n3_; have HB := n4_; clear n0_ n1_ n2_ n3_ n4_; (try clear hb); (try clear hb2); (try clear hk); (try clear hi); (try clear ho0); have hcz80_0 : w79.cell? ⟨gb278, 0, none⟩ = some (.int .i64 t270) := (blk_cell BK278.out 0).trans rfl; have hcz80_1 : w79.cell? ⟨gb278, 1, none⟩ = some (.int .i64 t271) := (blk_cell BK278.out 1).trans rfl; have hcz80_2 : w79.cell? ⟨gb278, 2, none⟩ = some (.slice Ao77 t272.length co77) := (blk_cell BK278.out 2).trans rfl; have hcz80_3 : w79.cell? ⟨gb278, 3, none⟩ = some (.slice Ao78 t275.length co78) := (blk_cell BK278.out 3).trans rfl; have hfz80_0 := blk_frozen BK278.out 0; have hfz80_1 := blk_frozen BK278.out 1; have hfz80_2 := blk_frozen BK278.out 2; have hfz80_3 := blk_frozen BK278.out 3) | ((with_reducible refine gate_callee (f := 28) rfl ?_); refine goesL_ (some 19) rfl rfl Try.func28 (by kernel_rfl) rfl #[.agg #[.int .i64 t270, .int .i64 t271, .slice Ao77 t272.length co77, .slice Ao78 t275.length co78]] rfl (by (try simp only [List.map_toArray, List.map_cons, List.map_nil]); first | done | rfl | (simp only [List.length_drop, List.length_take]; rfl)) ?_; (with_reducible refine (spec_LoopClues.calls k t270 t271 _ _ t272 _ _ t275 t282 _ ?side1 ?side2 ?side3 ?side4 A5.out).mono ?_); (case side1 => repeat (first | exact (Kd.Q_reads' HO274.out).2.2 | (with_reducible refine Kd.C_alloc ?_ _) | (with_reducible refine Kd.C_drewN ?_ _) | (with_reducible refine Kd.C_drew ?_))); (case side2 => exact (Kd.Q_reads' HO274.out).2.1); (case side3 => repeat (first | exact (Kd.S_reads' HO277.out).2.2 | (with_reducible refine Kd.C_alloc ?_ _) | (with_reducible refine Kd.C_drewN ?_ _) | (with_reducible refine Kd.C_drew ?_))); (case side4 => exact (Kd.S_reads' HO277.out).2.1); rintro e w81 ⟨v283, rfl, ho0, hb⟩; refine ⟨_, rfl, ?_⟩; have n0_ := Aside0.mk (Kd.Q_below (by (with_reducible repeat (first | apply Kd.Q_alloc | apply Kd.Q_drewN | apply Kd.Q_drew)); exact HO274.out) hb); have n1_ := Aside0.mk (Kd.S_below (by (with_reducible repeat (first | apply Kd.S_alloc | apply Kd.S_drewN | apply Kd.S_drew)); exact HO277.out) hb); have n2_ := Aside0.mk (Kd.R_elder' (by (with_reducible repeat (first | apply Kd.R_alloc | apply Kd.R_drewN | apply Kd.R_drew)); exact HO281.out) (Kd.R_base ho0) hb); have n3_ := Aside0.mk (Kd.R_lower (Kd.R_new' ho0 (Kd.R_lt (by (with_reducible repeat (first | apply Kd.R_alloc | apply Kd.R_drewN | apply Kd.R_drew)); exact HO281.out))) (below_size (by repeat (first | (with_reducible first | exact HB.out | apply below_alloc | apply pw_below_drewN | apply below_drew1 | refine below_set ?_ GE278.out) | exact HB.out)))); have n4_ := Aside0.mk (blk_below (g := gb278) (o := .cells #[.int .i64 t270, .int .i64 t271, .slice Ao77 t272.length co77, .slice Ao78 t275.length co78] 27 (0, 0)) (by (with_reducible repeat (first | refine blk_drewN ?_ _ | refine blk_drew ?_ | refine blk_alloc ?_ _)); exact BK278.out) hb); have n5_ := Aside0.mk (below_step (by repeat (first | (with_reducible first | exact HB.out | apply below_alloc | apply pw_below_drewN | apply below_drew1 | refine below_set ?_ GE278.out) | exact HB.out)) hb); clear HO274; clear HO277; clear HO281; clear BK278; clear HB; have HO274 := n0_; have HO277 := n1_; have HO281 := n2_; have HO284 := n3_; have BK278 := n4_; have HB := n5_; clear n0_ n1_ n2_ n3_ n4_ n5_; (try clear hb); (try clear hb2); (try clear hk); (try clear hi); (try clear ho0); obtain ⟨Ao82, co82, eo82⟩ := Kd.R_slice HO281.out; subst eo82; obtain ⟨Ao83, co83, eo83⟩ := Kd.R_slice HO284.out; subst eo83) | ((with_reducible refine gate_callee (f := 35) rfl ?_); refine goesL_ (some 20) rfl rfl Try.func35 (by kernel_rfl) rfl #[.slice Ao82 t279.length co82, .slice Ao83 t282.length co83] rfl (by (try simp only [List.map_toArray, List.map_cons, List.map_nil]); first | done | rfl | (simp only [List.length_drop, List.length_take]; rfl)) ?_; (with_reducible refine (laws_sameInts.calls k _ _ t279 _ _ t282 true _ ?side1 ?side2 ?side3 ?side4 A6.out).mono ?_); (case side1 => repeat (first | exact (Kd.R_reads' HO281.out).2.2 | (with_reducible refine Kd.C_alloc ?_ _) | (with_reducible refine Kd.C_drewN ?_ _) | (with_reducible refine Kd.C_drew ?_))); (case side2 => exact (Kd.R_reads' HO281.out).2.1); (case side3 => repeat (first | exact (Kd.R_reads' HO284.out).2.2 | (with_reducible refine Kd.C_alloc ?_ _) | (with_reducible refine Kd.C_drewN ?_ _) | (with_reducible refine Kd.C_drew ?_))); (case side4 => exact (Kd.R_reads' HO284.out).2.1); rintro e w' ⟨rfl, ⟨nd, rfl⟩⟩; refine ⟨_, rfl, ?_⟩; have hcz84_0 : w81.cell? ⟨gb278, 0, none⟩ = some (.int .i64 t270) := (blk_cell BK278.out 0).trans rfl; have hcz84_1 : w81.cell? ⟨gb278, 1, none⟩ = some (.int .i64 t271) := (blk_cell BK278.out 1).trans rfl; have hcz84_2 : w81.cell? ⟨gb278, 2, none⟩ = some (.slice Ao77 t272.length co77) := (blk_cell BK278.out 2).trans rfl; have hcz84_3 : w81.cell? ⟨gb278, 3, none⟩ = some (.slice Ao78 t275.length co78) := (blk_cell BK278.out 3).trans rfl; have hfz84_0 := blk_frozen BK278.out 0; have hfz84_1 := blk_frozen BK278.out 1; have hfz84_2 := blk_frozen BK278.out 2; have hfz84_3 := blk_frozen BK278.out 3) | ((with_reducible refine gate_callee (f := 36) rfl ?_); refine goesL_ (some 23) rfl rfl Try.func36 (by kernel_rfl) rfl #[.agg #[.int .i64 t270, .int .i64 t271, .slice Ao77 t272.length co77, .slice Ao78 t275.length co78]] rfl (by (try simp only [List.map_toArray, List.map_cons, List.map_nil]); first | done | rfl | (simp only [List.length_drop, List.length_take]; rfl)) ?_; (with_reducible refine (spec_LoopValid.calls k t270 t271 _ _ t272 _ _ t275 false _ ?side1 ?side2 ?side3 ?side4 A8.out).mono ?_); (case side1 => repeat (first | exact (Kd.Q_reads' HO274.out).2.2 | (with_reducible refine Kd.C_alloc ?_ _) | (with_reducible refine Kd.C_drewN ?_ _) | (with_reducible refine Kd.C_drew ?_))); (case side2 => exact (Kd.Q_reads' HO274.out).2.1); (case side3 => repeat (first | exact (Kd.S_reads' HO277.out).2.2 | (with_reducible refine Kd.C_alloc ?_ _) | (with_reducible refine Kd.C_drewN ?_ _) | (with_reducible refine Kd.C_drew ?_))); (case side4 => exact (Kd.S_reads' HO277.out).2.1); rintro e w85 ⟨rfl, hb⟩; refine ⟨_, rfl, ?_⟩; have n0_ := Aside0.mk (Kd.Q_below (by (with_reducible repeat (first | apply Kd.Q_alloc | apply Kd.Q_drewN | apply Kd.Q_drew)); exact HO274.out) hb); have n1_ := Aside0.mk (Kd.S_below (by (with_reducible repeat (first | apply Kd.S_alloc | apply Kd.S_drewN | apply Kd.S_drew)); exact HO277.out) hb); have n2_ := Aside0.mk (Kd.R_below (by (with_reducible repeat (first | apply Kd.R_alloc | apply Kd.R_drewN | apply Kd.R_drew)); exact HO281.out) hb); have n3_ := Aside0.mk (Kd.R_below (by (with_reducible repeat (first | apply Kd.R_alloc | apply Kd.R_drewN | apply Kd.R_drew)); exact HO284.out) hb); have n4_ := Aside0.mk (blk_below (g := gb278) (o := .cells #[.int .i64 t270, .int .i64 t271, .slice Ao77 t272.length co77, .slice Ao78 t275.length co78] 27 (0, 0)) (by (with_reducible repeat (first | refine blk_drewN ?_ _ | refine blk_drew ?_ | refine blk_alloc ?_ _)); exact BK278.out) hb); have n5_ := Aside0.mk (below_step (by repeat (first | (with_reducible first | exact HB.out | apply below_alloc | apply pw_below_drewN | apply below_drew1 | refine below_set ?_ GE278.out) | exact HB.out)) hb); clear HO274; clear HO277; clear HO281; clear HO284; clear BK278; clear HB; have HO274 := n0_; have HO277 := n1_; have HO281 := n2_; have HO284 := n3_; have BK278 := n4_; have HB := n5_; clear n0_ n1_ n2_ n3_ n4_ n5_; (try clear hb); (try clear hb2); (try clear hk); (try clear hi)) | (go_at_call 27; (with_reducible refine (laws_alive.calls k  t287 _ A73.out).mono ?_); rintro e w86 ⟨rfl, hb⟩; have n0_ := Aside0.mk (Kd.Q_below (by (with_reducible repeat (first | apply Kd.Q_alloc | apply Kd.Q_drewN | apply Kd.Q_drew)); exact HO274.out) hb); have n1_ := Aside0.mk (Kd.S_below (by (with_reducible repeat (first | apply Kd.S_alloc | apply Kd.S_drewN | apply Kd.S_drew)); exact HO277.out) hb); have n2_ := Aside0.mk (Kd.R_below (by (with_reducible repeat (first | apply Kd.R_alloc | apply Kd.R_drewN | apply Kd.R_drew)); exact HO281.out) hb); have n3_ := Aside0.mk (Kd.R_below (by (with_reducible repeat (first | apply Kd.R_alloc | apply Kd.R_drewN | apply Kd.R_drew)); exact HO284.out) hb); have n4_ := Aside0.mk (blk_below (g := gb278) (o := .cells #[.int .i64 t270, .int .i64 t271, .slice Ao77 t272.length co77, .slice Ao78 t275.length co78] 27 (0, 0)) (by (with_reducible repeat (first | refine blk_drewN ?_ _ | refine blk_drew ?_ | refine blk_alloc ?_ _)); exact BK278.out) hb); have n5_ := Aside0.mk (below_step (by repeat (first | (with_reducible first | exact HB.out | apply below_alloc | apply pw_below_drewN | apply below_drew1 | refine below_set ?_ GE278.out) | exact HB.out)) hb); clear HO274; clear HO277; clear HO281; clear HO284; clear BK278; clear HB; have HO274 := n0_; have HO277 := n1_; have HO281 := n2_; have HO284 := n3_; have BK278 := n4_; have HB := n5_; clear n0_ n1_ n2_ n3_ n4_ n5_; (try clear hb); (try clear hb2); (try clear hk); (try clear hi)))
          go_ret
          exact ⟨by first | rfl | (simp [errW_none, errW_some] <;> rfl) | (simp [*, errW_none, errW_some] <;> rfl), by repeat (first | (with_reducible first | exact HB.out | apply below_alloc | apply pw_below_drewN | apply below_drew1 | refine below_set ?_ GE278.out) | exact HB.out)⟩
        · rw [if_neg c72] at H
          have c72b0 : ((t279.length : Int) == 0) = false := beq_eq_false_iff_ne.mpr c72
          have c72b1 : ((t279.length : Int) != 0) = true := bne_iff_ne.mpr c72
          have c72b2 : ¬ (t279 = []) := fun h_ => c72 (by rw [h_]; rfl)
          obtain rfl := Option.some.inj H
          go_enter Try.func6, Try.ntmps6
          go_wp2_with (first | ((with_reducible refine gate_callee (f := 34) rfl ?_); refine goesL_ (some 14) rfl rfl Try.func34 (by kernel_rfl) rfl #[.slice A0 l0.length c0] rfl (by (try simp only [List.map_toArray, List.map_cons, List.map_nil]); first | done | rfl | (simp only [List.length_drop, List.length_take]; rfl)) ?_; (with_reducible refine (spec_DrawLoopClues.calls k _ _ l0 t270 t271 t272 t275 _ ?side1 ?side2 A3.out).mono ?_); (case side1 => repeat (first | exact HR0.out | (with_reducible refine Kd.C_alloc ?_ _) | (with_reducible refine Kd.C_drewN ?_ _) | (with_reducible refine Kd.C_drew ?_))); (case side2 => exact HC0.out); rintro e w87 ⟨v273, v276, rfl, ho0, ho1, hb⟩; refine ⟨_, rfl, ?_⟩; have n0_ := Aside0.mk (Kd.Q_lower ho0 (below_size (by repeat (first | (with_reducible first | exact HB.out | apply below_alloc | apply pw_below_drewN | apply below_drew1) | exact HB.out)))); have n1_ := Aside0.mk (Kd.S_lower ho1 (below_size (by repeat (first | (with_reducible first | exact HB.out | apply below_alloc | apply pw_below_drewN | apply below_drew1) | exact HB.out)))); have n2_ := Aside0.mk (below_step (by repeat (first | (with_reducible first | exact HB.out | apply below_alloc | apply pw_below_drewN | apply below_drew1) | exact HB.out)) hb); clear HB; have HO274 := n0_; have HO277 := n1_; have HB := n2_; clear n0_ n1_ n2_; (try clear hb); (try clear hb2); (try clear hk); (try clear hi); (try clear ho0); (try clear ho1)) | ((with_reducible refine gate_dst (N := 3) rfl ?_); refine box_event ?hg (N := 3) ?hd (cs := #[.int .i64 0, .int .i64 0, .slice none 0 0, .slice none 0 0]) (t := 27) ?hr ?_; (case hd => rfl); (case hg => rfl); (case hr => first | (go_simp; done) | (go_simp; rfl)); intro gb278 hg w88 hbox hb; have n0_ := Aside0.mk (Kd.Q_below (by (with_reducible repeat (first | apply Kd.Q_alloc | apply Kd.Q_drewN | apply Kd.Q_drew)); exact HO274.out) hb); have n1_ := Aside0.mk (Kd.S_below (by (with_reducible repeat (first | apply Kd.S_alloc | apply Kd.S_drewN | apply Kd.S_drew)); exact HO277.out) hb); have n2_ := Aside0.mk (below_step (by repeat (first | (with_reducible first | exact HB.out | apply below_alloc | apply pw_below_drewN | apply below_drew1) | exact HB.out)) hb); have n3_ := Aside0.mk (hbox); have n4_ := Aside0.mk ((by rw [hg]; exact (below_size (by repeat (first | (with_reducible first | exact HB.out | apply below_alloc | apply pw_below_drewN | apply below_drew1) | exact HB.out))) : w.heap.size ≤ gb278)); have n5_ := Aside0.mk ((by rw [hg]; exact (below_size (by repeat (first | (with_reducible first | exact HB.out | apply below_alloc | apply pw_below_drewN | apply below_drew1) | exact HB.out))) : w.heap.size ≤ gb278)); clear HO274; clear HO277; clear HB; have HO274 := n0_; have HO277 := n1_; have HB := n2_; have BK278 := n3_; have GW278 := n4_; have GE278 := n5_; clear n0_ n1_ n2_ n3_ n4_ n5_; clear hb hbox hg; have hcz89_0 : w88.cell? ⟨gb278, 0, none⟩ = some (.int .i64 0) := (blk_cell BK278.out 0).trans rfl; have hcz89_1 : w88.cell? ⟨gb278, 1, none⟩ = some (.int .i64 0) := (blk_cell BK278.out 1).trans rfl; have hcz89_2 : w88.cell? ⟨gb278, 2, none⟩ = some (.slice none 0 0) := (blk_cell BK278.out 2).trans rfl; have hcz89_3 : w88.cell? ⟨gb278, 3, none⟩ = some (.slice none 0 0) := (blk_cell BK278.out 3).trans rfl; have hfz89_0 := blk_frozen BK278.out 0; have hfz89_1 := blk_frozen BK278.out 1; have hfz89_2 := blk_frozen BK278.out 2; have hfz89_3 := blk_frozen BK278.out 3; obtain ⟨Ao90, co90, eo90, _⟩ := Kd.Q_slice HO274.out; subst eo90; obtain ⟨Ao91, co91, eo91⟩ := Kd.S_slice HO277.out; subst eo91) | ((with_reducible refine gate_callee (f := 29) rfl ?_); refine goesL_ (some 16) rfl rfl Try.func29 (by kernel_rfl) rfl #[.agg #[.int .i64 t270, .int .i64 t271, .slice Ao90 t272.length co90, .slice Ao91 t275.length co91]] rfl (by (try simp only [List.map_toArray, List.map_cons, List.map_nil]); first | done | rfl | (simp only [List.length_drop, List.length_take]; rfl)) ?_; (with_reducible refine (impl_LoopClues.calls k t270 t271 _ _ t272 _ _ t275 t279 _ ?side1 ?side2 ?side3 ?side4 A4.out).mono ?_); (case side1 => refine (Kd.Q_reads' (e := 45) (base := w.heap.size) (ok := fun k_ => some k_ ≠ (.slice Ao91 t275.length co91 : Value).ownBlock) (n := t272.length) (c := co90) ?_).2.2; exact (by (with_reducible repeat (first | apply Kd.Q_alloc | apply Kd.Q_drewN | apply Kd.Q_drew)); exact (Kd.Q_mono (Kd.Q_far (p := ⟨gb278, 3, none⟩) (Kd.Q_far (p := ⟨gb278, 2, none⟩) (Kd.Q_far (p := ⟨gb278, 1, none⟩) (Kd.Q_far (p := ⟨gb278, 0, none⟩) (Kd.Q_types HO274.out BK278.out (by decide)) (fun _ hk => hk.2) (.int .i64 t270)) (fun _ hk => hk.2) (.int .i64 t271)) (fun _ hk => hk.2) (.slice Ao90 t272.length co90)) (fun _ hk => hk.2) (.slice Ao91 t275.length co91)) (fun _ h_ => h_.1)))); (case side2 => exact (Kd.Q_reads' HO274.out).2.1); (case side3 => refine (Kd.S_reads' (e := 45) (base := w.heap.size) (ok := fun k_ => some k_ ≠ (.slice Ao90 t272.length co90 : Value).ownBlock) (n := t275.length) (c := co91) ?_).2.2; exact (by (with_reducible repeat (first | apply Kd.S_alloc | apply Kd.S_drewN | apply Kd.S_drew)); exact (Kd.S_mono (Kd.S_far (p := ⟨gb278, 3, none⟩) (Kd.S_far (p := ⟨gb278, 2, none⟩) (Kd.S_far (p := ⟨gb278, 1, none⟩) (Kd.S_far (p := ⟨gb278, 0, none⟩) (Kd.S_types HO277.out BK278.out (by decide)) (fun _ hk => hk.2) (.int .i64 t270)) (fun _ hk => hk.2) (.int .i64 t271)) (fun _ hk => hk.2) (.slice Ao90 t272.length co90)) (fun _ hk => hk.2) (.slice Ao91 t275.length co91)) (fun _ h_ => h_.1)))); (case side4 => exact (Kd.S_reads' HO277.out).2.1); rintro e w92 ⟨v280, rfl, ho0, hb⟩; refine ⟨_, rfl, ?_⟩; have n0_ := Aside0.mk (Kd.Q_below (by (with_reducible repeat (first | apply Kd.Q_alloc | apply Kd.Q_drewN | apply Kd.Q_drew)); exact (Kd.Q_mono (Kd.Q_far (p := ⟨gb278, 3, none⟩) (Kd.Q_far (p := ⟨gb278, 2, none⟩) (Kd.Q_far (p := ⟨gb278, 1, none⟩) (Kd.Q_far (p := ⟨gb278, 0, none⟩) (Kd.Q_types HO274.out BK278.out (by decide)) (fun _ hk => hk.2) (.int .i64 t270)) (fun _ hk => hk.2) (.int .i64 t271)) (fun _ hk => hk.2) (.slice Ao90 t272.length co90)) (fun _ hk => hk.2) (.slice Ao91 t275.length co91)) (fun _ h_ => h_.1))) hb); have n1_ := Aside0.mk (Kd.S_below (by (with_reducible repeat (first | apply Kd.S_alloc | apply Kd.S_drewN | apply Kd.S_drew)); exact (Kd.S_mono (Kd.S_far (p := ⟨gb278, 3, none⟩) (Kd.S_far (p := ⟨gb278, 2, none⟩) (Kd.S_far (p := ⟨gb278, 1, none⟩) (Kd.S_far (p := ⟨gb278, 0, none⟩) (Kd.S_types HO277.out BK278.out (by decide)) (fun _ hk => hk.2) (.int .i64 t270)) (fun _ hk => hk.2) (.int .i64 t271)) (fun _ hk => hk.2) (.slice Ao90 t272.length co90)) (fun _ hk => hk.2) (.slice Ao91 t275.length co91)) (fun _ h_ => h_.1))) hb); have n2_ := Aside0.mk (Kd.R_lower ho0 (below_size (by repeat (first | (with_reducible first | exact HB.out | apply below_alloc | apply pw_below_drewN | apply below_drew1 | refine below_set ?_ GE278.out) | exact HB.out)))); have n3_ := Aside0.mk (blk_below (g := gb278) (o := .cells #[.int .i64 t270, .int .i64 t271, .slice Ao90 t272.length co90, .slice Ao91 t275.length co91] 27 (0, 0)) (by (with_reducible repeat (first | refine blk_drewN ?_ _ | refine blk_drew ?_ | refine blk_alloc ?_ _)); refine blk_put (cs := #[.int .i64 t270, .int .i64 t271, .slice Ao90 t272.length co90, .slice none 0 0]) ?_ 3 _ rfl; (with_reducible repeat (first | refine blk_drewN ?_ _ | refine blk_drew ?_ | refine blk_alloc ?_ _)); refine blk_put (cs := #[.int .i64 t270, .int .i64 t271, .slice none 0 0, .slice none 0 0]) ?_ 2 _ rfl; (with_reducible repeat (first | refine blk_drewN ?_ _ | refine blk_drew ?_ | refine blk_alloc ?_ _)); refine blk_put (cs := #[.int .i64 t270, .int .i64 0, .slice none 0 0, .slice none 0 0]) ?_ 1 _ rfl; (with_reducible repeat (first | refine blk_drewN ?_ _ | refine blk_drew ?_ | refine blk_alloc ?_ _)); refine blk_put (cs := #[.int .i64 0, .int .i64 0, .slice none 0 0, .slice none 0 0]) ?_ 0 _ rfl; (with_reducible repeat (first | refine blk_drewN ?_ _ | refine blk_drew ?_ | refine blk_alloc ?_ _)); exact BK278.out) hb); have n4_ := Aside0.mk (below_step (by repeat (first | (with_reducible first | exact HB.out | apply below_alloc | apply pw_below_drewN | apply below_drew1 | refine below_set ?_ GE278.out) | exact HB.out)) hb); clear HO274; clear HO277; clear BK278; clear HB; have HO274 := n0_; have HO277 := n1_; have HO281 := n2_; have BK278 := n3_; have HB := n4_; clear n0_ n1_ n2_ n3_ n4_; (try clear hb); (try clear hb2); (try clear hk); (try clear hi); (try clear ho0); have hcz93_0 : w92.cell? ⟨gb278, 0, none⟩ = some (.int .i64 t270) := (blk_cell BK278.out 0).trans rfl; have hcz93_1 : w92.cell? ⟨gb278, 1, none⟩ = some (.int .i64 t271) := (blk_cell BK278.out 1).trans rfl; have hcz93_2 : w92.cell? ⟨gb278, 2, none⟩ = some (.slice Ao90 t272.length co90) := (blk_cell BK278.out 2).trans rfl; have hcz93_3 : w92.cell? ⟨gb278, 3, none⟩ = some (.slice Ao91 t275.length co91) := (blk_cell BK278.out 3).trans rfl; have hfz93_0 := blk_frozen BK278.out 0; have hfz93_1 := blk_frozen BK278.out 1; have hfz93_2 := blk_frozen BK278.out 2; have hfz93_3 := blk_frozen BK278.out 3) | ((with_reducible refine gate_callee (f := 28) rfl ?_); refine goesL_ (some 19) rfl rfl Try.func28 (by kernel_rfl) rfl #[.agg #[.int .i64 t270, .int .i64 t271, .slice Ao90 t272.length co90, .slice Ao91 t275.length co91]] rfl (by (try simp only [List.map_toArray, List.map_cons, List.map_nil]); first | done | rfl | (simp only [List.length_drop, List.length_take]; rfl)) ?_; (with_reducible refine (spec_LoopClues.calls k t270 t271 _ _ t272 _ _ t275 t282 _ ?side1 ?side2 ?side3 ?side4 A5.out).mono ?_); (case side1 => repeat (first | exact (Kd.Q_reads' HO274.out).2.2 | (with_reducible refine Kd.C_alloc ?_ _) | (with_reducible refine Kd.C_drewN ?_ _) | (with_reducible refine Kd.C_drew ?_))); (case side2 => exact (Kd.Q_reads' HO274.out).2.1); (case side3 => repeat (first | exact (Kd.S_reads' HO277.out).2.2 | (with_reducible refine Kd.C_alloc ?_ _) | (with_reducible refine Kd.C_drewN ?_ _) | (with_reducible refine Kd.C_drew ?_))); (case side4 => exact (Kd.S_reads' HO277.out).2.1); rintro e w94 ⟨v283, rfl, ho0, hb⟩; refine ⟨_, rfl, ?_⟩; have n0_ := Aside0.mk (Kd.Q_below (by (with_reducible repeat (first | apply Kd.Q_alloc | apply Kd.Q_drewN | apply Kd.Q_drew)); exact HO274.out) hb); have n1_ := Aside0.mk (Kd.S_below (by (with_reducible repeat (first | apply Kd.S_alloc | apply Kd.S_drewN | apply Kd.S_drew)); exact HO277.out) hb); have n2_ := Aside0.mk (Kd.R_elder' (by (with_reducible repeat (first | apply Kd.R_alloc | apply Kd.R_drewN | apply Kd.R_drew)); exact HO281.out) (Kd.R_base ho0) hb); have n3_ := Aside0.mk (Kd.R_lower (Kd.R_new' ho0 (Kd.R_lt (by (with_reducible repeat (first | apply Kd.R_alloc | apply Kd.R_drewN | apply Kd.R_drew)); exact HO281.out))) (below_size (by repeat (first | (with_reducible first | exact HB.out | apply below_alloc | apply pw_below_drewN | apply below_drew1 | refine below_set ?_ GE278.out) | exact HB.out)))); have n4_ := Aside0.mk (blk_below (g := gb278) (o := .cells #[.int .i64 t270, .int .i64 t271, .slice Ao90 t272.length co90, .slice Ao91 t275.length co91] 27 (0, 0)) (by (with_reducible repeat (first | refine blk_drewN ?_ _ | refine blk_drew ?_ | refine blk_alloc ?_ _)); exact BK278.out) hb); have n5_ := Aside0.mk (below_step (by repeat (first | (with_reducible first | exact HB.out | apply below_alloc | apply pw_below_drewN | apply below_drew1 | refine below_set ?_ GE278.out) | exact HB.out)) hb); clear HO274; clear HO277; clear HO281; clear BK278; clear HB; have HO274 := n0_; have HO277 := n1_; have HO281 := n2_; have HO284 := n3_; have BK278 := n4_; have HB := n5_; clear n0_ n1_ n2_ n3_ n4_ n5_; (try clear hb); (try clear hb2); (try clear hk); (try clear hi); (try clear ho0); obtain ⟨Ao95, co95, eo95⟩ := Kd.R_slice HO281.out; subst eo95; obtain ⟨Ao96, co96, eo96⟩ := Kd.R_slice HO284.out; subst eo96) | ((with_reducible refine gate_callee (f := 35) rfl ?_); refine goesL_ (some 20) rfl rfl Try.func35 (by kernel_rfl) rfl #[.slice Ao95 t279.length co95, .slice Ao96 t282.length co96] rfl (by (try simp only [List.map_toArray, List.map_cons, List.map_nil]); first | done | rfl | (simp only [List.length_drop, List.length_take]; rfl)) ?_; (with_reducible refine (laws_sameInts.calls k _ _ t279 _ _ t282 true _ ?side1 ?side2 ?side3 ?side4 A6.out).mono ?_); (case side1 => repeat (first | exact (Kd.R_reads' HO281.out).2.2 | (with_reducible refine Kd.C_alloc ?_ _) | (with_reducible refine Kd.C_drewN ?_ _) | (with_reducible refine Kd.C_drew ?_))); (case side2 => exact (Kd.R_reads' HO281.out).2.1); (case side3 => repeat (first | exact (Kd.R_reads' HO284.out).2.2 | (with_reducible refine Kd.C_alloc ?_ _) | (with_reducible refine Kd.C_drewN ?_ _) | (with_reducible refine Kd.C_drew ?_))); (case side4 => exact (Kd.R_reads' HO284.out).2.1); rintro e w' ⟨rfl, ⟨nd, rfl⟩⟩; refine ⟨_, rfl, ?_⟩; have hcz97_0 : w94.cell? ⟨gb278, 0, none⟩ = some (.int .i64 t270) := (blk_cell BK278.out 0).trans rfl; have hcz97_1 : w94.cell? ⟨gb278, 1, none⟩ = some (.int .i64 t271) := (blk_cell BK278.out 1).trans rfl; have hcz97_2 : w94.cell? ⟨gb278, 2, none⟩ = some (.slice Ao90 t272.length co90) := (blk_cell BK278.out 2).trans rfl; have hcz97_3 : w94.cell? ⟨gb278, 3, none⟩ = some (.slice Ao91 t275.length co91) := (blk_cell BK278.out 3).trans rfl; have hfz97_0 := blk_frozen BK278.out 0; have hfz97_1 := blk_frozen BK278.out 1; have hfz97_2 := blk_frozen BK278.out 2; have hfz97_3 := blk_frozen BK278.out 3) | ((with_reducible refine gate_callee (f := 36) rfl ?_); refine goesL_ (some 23) rfl rfl Try.func36 (by kernel_rfl) rfl #[.agg #[.int .i64 t270, .int .i64 t271, .slice Ao90 t272.length co90, .slice Ao91 t275.length co91]] rfl (by (try simp only [List.map_toArray, List.map_cons, List.map_nil]); first | done | rfl | (simp only [List.length_drop, List.length_take]; rfl)) ?_; (with_reducible refine (spec_LoopValid.calls k t270 t271 _ _ t272 _ _ t275 false _ ?side1 ?side2 ?side3 ?side4 A8.out).mono ?_); (case side1 => repeat (first | exact (Kd.Q_reads' HO274.out).2.2 | (with_reducible refine Kd.C_alloc ?_ _) | (with_reducible refine Kd.C_drewN ?_ _) | (with_reducible refine Kd.C_drew ?_))); (case side2 => exact (Kd.Q_reads' HO274.out).2.1); (case side3 => repeat (first | exact (Kd.S_reads' HO277.out).2.2 | (with_reducible refine Kd.C_alloc ?_ _) | (with_reducible refine Kd.C_drewN ?_ _) | (with_reducible refine Kd.C_drew ?_))); (case side4 => exact (Kd.S_reads' HO277.out).2.1); rintro e w98 ⟨rfl, hb⟩; refine ⟨_, rfl, ?_⟩; have n0_ := Aside0.mk (Kd.Q_below (by (with_reducible repeat (first | apply Kd.Q_alloc | apply Kd.Q_drewN | apply Kd.Q_drew)); exact HO274.out) hb); have n1_ := Aside0.mk (Kd.S_below (by (with_reducible repeat (first | apply Kd.S_alloc | apply Kd.S_drewN | apply Kd.S_drew)); exact HO277.out) hb); have n2_ := Aside0.mk (Kd.R_below (by (with_reducible repeat (first | apply Kd.R_alloc | apply Kd.R_drewN | apply Kd.R_drew)); exact HO281.out) hb); have n3_ := Aside0.mk (Kd.R_below (by (with_reducible repeat (first | apply Kd.R_alloc | apply Kd.R_drewN | apply Kd.R_drew)); exact HO284.out) hb); have n4_ := Aside0.mk (blk_below (g := gb278) (o := .cells #[.int .i64 t270, .int .i64 t271, .slice Ao90 t272.length co90, .slice Ao91 t275.length co91] 27 (0, 0)) (by (with_reducible repeat (first | refine blk_drewN ?_ _ | refine blk_drew ?_ | refine blk_alloc ?_ _)); exact BK278.out) hb); have n5_ := Aside0.mk (below_step (by repeat (first | (with_reducible first | exact HB.out | apply below_alloc | apply pw_below_drewN | apply below_drew1 | refine below_set ?_ GE278.out) | exact HB.out)) hb); clear HO274; clear HO277; clear HO281; clear HO284; clear BK278; clear HB; have HO274 := n0_; have HO277 := n1_; have HO281 := n2_; have HO284 := n3_; have BK278 := n4_; have HB := n5_; clear n0_ n1_ n2_ n3_ n4_ n5_; (try clear hb); (try clear hb2); (try clear hk); (try clear hi)))
          go_ret
          exact ⟨by first | rfl | (simp [errW_none, errW_some] <;> rfl) | (simp [*, errW_none, errW_some] <;> rfl), by repeat (first | (with_reducible first | exact HB.out | apply below_alloc | apply pw_below_drewN | apply below_drew1 | refine below_set ?_ GE278.out) | exact HB.out)⟩
    · replace c7 := Bool.eq_false_iff.mpr c7
      subst c7
      have H1 : (some false) = some r := by rw [if_neg (show ¬ (false = true) by decide)] at H; exact H
      clear H
      have H := H1
      clear H1
      obtain rfl := Option.some.inj H
      go_enter Try.func6, Try.ntmps6
      go_wp2_with (first | ((with_reducible refine gate_callee (f := 34) rfl ?_); refine goesL_ (some 14) rfl rfl Try.func34 (by kernel_rfl) rfl #[.slice A0 l0.length c0] rfl (by (try simp only [List.map_toArray, List.map_cons, List.map_nil]); first | done | rfl | (simp only [List.length_drop, List.length_take]; rfl)) ?_; (with_reducible refine (spec_DrawLoopClues.calls k _ _ l0 t270 t271 t272 t275 _ ?side1 ?side2 A3.out).mono ?_); (case side1 => repeat (first | exact HR0.out | (with_reducible refine Kd.C_alloc ?_ _) | (with_reducible refine Kd.C_drewN ?_ _) | (with_reducible refine Kd.C_drew ?_))); (case side2 => exact HC0.out); rintro e w99 ⟨v273, v276, rfl, ho0, ho1, hb⟩; refine ⟨_, rfl, ?_⟩; have n0_ := Aside0.mk (Kd.Q_lower ho0 (below_size (by repeat (first | (with_reducible first | exact HB.out | apply below_alloc | apply pw_below_drewN | apply below_drew1) | exact HB.out)))); have n1_ := Aside0.mk (Kd.S_lower ho1 (below_size (by repeat (first | (with_reducible first | exact HB.out | apply below_alloc | apply pw_below_drewN | apply below_drew1) | exact HB.out)))); have n2_ := Aside0.mk (below_step (by repeat (first | (with_reducible first | exact HB.out | apply below_alloc | apply pw_below_drewN | apply below_drew1) | exact HB.out)) hb); clear HB; have HO274 := n0_; have HO277 := n1_; have HB := n2_; clear n0_ n1_ n2_; (try clear hb); (try clear hb2); (try clear hk); (try clear hi); (try clear ho0); (try clear ho1)) | ((with_reducible refine gate_dst (N := 3) rfl ?_); refine box_event ?hg (N := 3) ?hd (cs := #[.int .i64 0, .int .i64 0, .slice none 0 0, .slice none 0 0]) (t := 27) ?hr ?_; (case hd => rfl); (case hg => rfl); (case hr => first | (go_simp; done) | (go_simp; rfl)); intro gb278 hg w100 hbox hb; have n0_ := Aside0.mk (Kd.Q_below (by (with_reducible repeat (first | apply Kd.Q_alloc | apply Kd.Q_drewN | apply Kd.Q_drew)); exact HO274.out) hb); have n1_ := Aside0.mk (Kd.S_below (by (with_reducible repeat (first | apply Kd.S_alloc | apply Kd.S_drewN | apply Kd.S_drew)); exact HO277.out) hb); have n2_ := Aside0.mk (below_step (by repeat (first | (with_reducible first | exact HB.out | apply below_alloc | apply pw_below_drewN | apply below_drew1) | exact HB.out)) hb); have n3_ := Aside0.mk (hbox); have n4_ := Aside0.mk ((by rw [hg]; exact (below_size (by repeat (first | (with_reducible first | exact HB.out | apply below_alloc | apply pw_below_drewN | apply below_drew1) | exact HB.out))) : w.heap.size ≤ gb278)); have n5_ := Aside0.mk ((by rw [hg]; exact (below_size (by repeat (first | (with_reducible first | exact HB.out | apply below_alloc | apply pw_below_drewN | apply below_drew1) | exact HB.out))) : w.heap.size ≤ gb278)); clear HO274; clear HO277; clear HB; have HO274 := n0_; have HO277 := n1_; have HB := n2_; have BK278 := n3_; have GW278 := n4_; have GE278 := n5_; clear n0_ n1_ n2_ n3_ n4_ n5_; clear hb hbox hg; have hcz101_0 : w100.cell? ⟨gb278, 0, none⟩ = some (.int .i64 0) := (blk_cell BK278.out 0).trans rfl; have hcz101_1 : w100.cell? ⟨gb278, 1, none⟩ = some (.int .i64 0) := (blk_cell BK278.out 1).trans rfl; have hcz101_2 : w100.cell? ⟨gb278, 2, none⟩ = some (.slice none 0 0) := (blk_cell BK278.out 2).trans rfl; have hcz101_3 : w100.cell? ⟨gb278, 3, none⟩ = some (.slice none 0 0) := (blk_cell BK278.out 3).trans rfl; have hfz101_0 := blk_frozen BK278.out 0; have hfz101_1 := blk_frozen BK278.out 1; have hfz101_2 := blk_frozen BK278.out 2; have hfz101_3 := blk_frozen BK278.out 3; obtain ⟨Ao102, co102, eo102, _⟩ := Kd.Q_slice HO274.out; subst eo102; obtain ⟨Ao103, co103, eo103⟩ := Kd.S_slice HO277.out; subst eo103) | ((with_reducible refine gate_callee (f := 29) rfl ?_); refine goesL_ (some 16) rfl rfl Try.func29 (by kernel_rfl) rfl #[.agg #[.int .i64 t270, .int .i64 t271, .slice Ao102 t272.length co102, .slice Ao103 t275.length co103]] rfl (by (try simp only [List.map_toArray, List.map_cons, List.map_nil]); first | done | rfl | (simp only [List.length_drop, List.length_take]; rfl)) ?_; (with_reducible refine (impl_LoopClues.calls k t270 t271 _ _ t272 _ _ t275 t279 _ ?side1 ?side2 ?side3 ?side4 A4.out).mono ?_); (case side1 => refine (Kd.Q_reads' (e := 45) (base := w.heap.size) (ok := fun k_ => some k_ ≠ (.slice Ao103 t275.length co103 : Value).ownBlock) (n := t272.length) (c := co102) ?_).2.2; exact (by (with_reducible repeat (first | apply Kd.Q_alloc | apply Kd.Q_drewN | apply Kd.Q_drew)); exact (Kd.Q_mono (Kd.Q_far (p := ⟨gb278, 3, none⟩) (Kd.Q_far (p := ⟨gb278, 2, none⟩) (Kd.Q_far (p := ⟨gb278, 1, none⟩) (Kd.Q_far (p := ⟨gb278, 0, none⟩) (Kd.Q_types HO274.out BK278.out (by decide)) (fun _ hk => hk.2) (.int .i64 t270)) (fun _ hk => hk.2) (.int .i64 t271)) (fun _ hk => hk.2) (.slice Ao102 t272.length co102)) (fun _ hk => hk.2) (.slice Ao103 t275.length co103)) (fun _ h_ => h_.1)))); (case side2 => exact (Kd.Q_reads' HO274.out).2.1); (case side3 => refine (Kd.S_reads' (e := 45) (base := w.heap.size) (ok := fun k_ => some k_ ≠ (.slice Ao102 t272.length co102 : Value).ownBlock) (n := t275.length) (c := co103) ?_).2.2; exact (by (with_reducible repeat (first | apply Kd.S_alloc | apply Kd.S_drewN | apply Kd.S_drew)); exact (Kd.S_mono (Kd.S_far (p := ⟨gb278, 3, none⟩) (Kd.S_far (p := ⟨gb278, 2, none⟩) (Kd.S_far (p := ⟨gb278, 1, none⟩) (Kd.S_far (p := ⟨gb278, 0, none⟩) (Kd.S_types HO277.out BK278.out (by decide)) (fun _ hk => hk.2) (.int .i64 t270)) (fun _ hk => hk.2) (.int .i64 t271)) (fun _ hk => hk.2) (.slice Ao102 t272.length co102)) (fun _ hk => hk.2) (.slice Ao103 t275.length co103)) (fun _ h_ => h_.1)))); (case side4 => exact (Kd.S_reads' HO277.out).2.1); rintro e w104 ⟨v280, rfl, ho0, hb⟩; refine ⟨_, rfl, ?_⟩; have n0_ := Aside0.mk (Kd.Q_below (by (with_reducible repeat (first | apply Kd.Q_alloc | apply Kd.Q_drewN | apply Kd.Q_drew)); exact (Kd.Q_mono (Kd.Q_far (p := ⟨gb278, 3, none⟩) (Kd.Q_far (p := ⟨gb278, 2, none⟩) (Kd.Q_far (p := ⟨gb278, 1, none⟩) (Kd.Q_far (p := ⟨gb278, 0, none⟩) (Kd.Q_types HO274.out BK278.out (by decide)) (fun _ hk => hk.2) (.int .i64 t270)) (fun _ hk => hk.2) (.int .i64 t271)) (fun _ hk => hk.2) (.slice Ao102 t272.length co102)) (fun _ hk => hk.2) (.slice Ao103 t275.length co103)) (fun _ h_ => h_.1))) hb); have n1_ := Aside0.mk (Kd.S_below (by (with_reducible repeat (first | apply Kd.S_alloc | apply Kd.S_drewN | apply Kd.S_drew)); exact (Kd.S_mono (Kd.S_far (p := ⟨gb278, 3, none⟩) (Kd.S_far (p := ⟨gb278, 2, none⟩) (Kd.S_far (p := ⟨gb278, 1, none⟩) (Kd.S_far (p := ⟨gb278, 0, none⟩) (Kd.S_types HO277.out BK278.out (by decide)) (fun _ hk => hk.2) (.int .i64 t270)) (fun _ hk => hk.2) (.int .i64 t271)) (fun _ hk => hk.2) (.slice Ao102 t272.length co102)) (fun _ hk => hk.2) (.slice Ao103 t275.length co103)) (fun _ h_ => h_.1))) hb); have n2_ := Aside0.mk (Kd.R_lower ho0 (below_size (by repeat (first | (with_reducible first | exact HB.out | apply below_alloc | apply pw_below_drewN | apply below_drew1 | refine below_set ?_ GE278.out) | exact HB.out)))); have n3_ := Aside0.mk (blk_below (g := gb278) (o := .cells #[.int .i64 t270, .int .i64 t271, .slice Ao102 t272.length co102, .slice Ao103 t275.length co103] 27 (0, 0)) (by (with_reducible repeat (first | refine blk_drewN ?_ _ | refine blk_drew ?_ | refine blk_alloc ?_ _)); refine blk_put (cs := #[.int .i64 t270, .int .i64 t271, .slice Ao102 t272.length co102, .slice none 0 0]) ?_ 3 _ rfl; (with_reducible repeat (first | refine blk_drewN ?_ _ | refine blk_drew ?_ | refine blk_alloc ?_ _)); refine blk_put (cs := #[.int .i64 t270, .int .i64 t271, .slice none 0 0, .slice none 0 0]) ?_ 2 _ rfl; (with_reducible repeat (first | refine blk_drewN ?_ _ | refine blk_drew ?_ | refine blk_alloc ?_ _)); refine blk_put (cs := #[.int .i64 t270, .int .i64 0, .slice none 0 0, .slice none 0 0]) ?_ 1 _ rfl; (with_reducible repeat (first | refine blk_drewN ?_ _ | refine blk_drew ?_ | refine blk_alloc ?_ _)); refine blk_put (cs := #[.int .i64 0, .int .i64 0, .slice none 0 0, .slice none 0 0]) ?_ 0 _ rfl; (with_reducible repeat (first | refine blk_drewN ?_ _ | refine blk_drew ?_ | refine blk_alloc ?_ _)); exact BK278.out) hb); have n4_ := Aside0.mk (below_step (by repeat (first | (with_reducible first | exact HB.out | apply below_alloc | apply pw_below_drewN | apply below_drew1 | refine below_set ?_ GE278.out) | exact HB.out)) hb); clear HO274; clear HO277; clear BK278; clear HB; have HO274 := n0_; have HO277 := n1_; have HO281 := n2_; have BK278 := n3_; have HB := n4_; clear n0_ n1_ n2_ n3_ n4_; (try clear hb); (try clear hb2); (try clear hk); (try clear hi); (try clear ho0); have hcz105_0 : w104.cell? ⟨gb278, 0, none⟩ = some (.int .i64 t270) := (blk_cell BK278.out 0).trans rfl; have hcz105_1 : w104.cell? ⟨gb278, 1, none⟩ = some (.int .i64 t271) := (blk_cell BK278.out 1).trans rfl; have hcz105_2 : w104.cell? ⟨gb278, 2, none⟩ = some (.slice Ao102 t272.length co102) := (blk_cell BK278.out 2).trans rfl; have hcz105_3 : w104.cell? ⟨gb278, 3, none⟩ = some (.slice Ao103 t275.length co103) := (blk_cell BK278.out 3).trans rfl; have hfz105_0 := blk_frozen BK278.out 0; have hfz105_1 := blk_frozen BK278.out 1; have hfz105_2 := blk_frozen BK278.out 2; have hfz105_3 := blk_frozen BK278.out 3) | ((with_reducible refine gate_callee (f := 28) rfl ?_); refine goesL_ (some 19) rfl rfl Try.func28 (by kernel_rfl) rfl #[.agg #[.int .i64 t270, .int .i64 t271, .slice Ao102 t272.length co102, .slice Ao103 t275.length co103]] rfl (by (try simp only [List.map_toArray, List.map_cons, List.map_nil]); first | done | rfl | (simp only [List.length_drop, List.length_take]; rfl)) ?_; (with_reducible refine (spec_LoopClues.calls k t270 t271 _ _ t272 _ _ t275 t282 _ ?side1 ?side2 ?side3 ?side4 A5.out).mono ?_); (case side1 => repeat (first | exact (Kd.Q_reads' HO274.out).2.2 | (with_reducible refine Kd.C_alloc ?_ _) | (with_reducible refine Kd.C_drewN ?_ _) | (with_reducible refine Kd.C_drew ?_))); (case side2 => exact (Kd.Q_reads' HO274.out).2.1); (case side3 => repeat (first | exact (Kd.S_reads' HO277.out).2.2 | (with_reducible refine Kd.C_alloc ?_ _) | (with_reducible refine Kd.C_drewN ?_ _) | (with_reducible refine Kd.C_drew ?_))); (case side4 => exact (Kd.S_reads' HO277.out).2.1); rintro e w106 ⟨v283, rfl, ho0, hb⟩; refine ⟨_, rfl, ?_⟩; have n0_ := Aside0.mk (Kd.Q_below (by (with_reducible repeat (first | apply Kd.Q_alloc | apply Kd.Q_drewN | apply Kd.Q_drew)); exact HO274.out) hb); have n1_ := Aside0.mk (Kd.S_below (by (with_reducible repeat (first | apply Kd.S_alloc | apply Kd.S_drewN | apply Kd.S_drew)); exact HO277.out) hb); have n2_ := Aside0.mk (Kd.R_elder' (by (with_reducible repeat (first | apply Kd.R_alloc | apply Kd.R_drewN | apply Kd.R_drew)); exact HO281.out) (Kd.R_base ho0) hb); have n3_ := Aside0.mk (Kd.R_lower (Kd.R_new' ho0 (Kd.R_lt (by (with_reducible repeat (first | apply Kd.R_alloc | apply Kd.R_drewN | apply Kd.R_drew)); exact HO281.out))) (below_size (by repeat (first | (with_reducible first | exact HB.out | apply below_alloc | apply pw_below_drewN | apply below_drew1 | refine below_set ?_ GE278.out) | exact HB.out)))); have n4_ := Aside0.mk (blk_below (g := gb278) (o := .cells #[.int .i64 t270, .int .i64 t271, .slice Ao102 t272.length co102, .slice Ao103 t275.length co103] 27 (0, 0)) (by (with_reducible repeat (first | refine blk_drewN ?_ _ | refine blk_drew ?_ | refine blk_alloc ?_ _)); exact BK278.out) hb); have n5_ := Aside0.mk (below_step (by repeat (first | (with_reducible first | exact HB.out | apply below_alloc | apply pw_below_drewN | apply below_drew1 | refine below_set ?_ GE278.out) | exact HB.out)) hb); clear HO274; clear HO277; clear HO281; clear BK278; clear HB; have HO274 := n0_; have HO277 := n1_; have HO281 := n2_; have HO284 := n3_; have BK278 := n4_; have HB := n5_; clear n0_ n1_ n2_ n3_ n4_ n5_; (try clear hb); (try clear hb2); (try clear hk); (try clear hi); (try clear ho0); obtain ⟨Ao107, co107, eo107⟩ := Kd.R_slice HO281.out; subst eo107; obtain ⟨Ao108, co108, eo108⟩ := Kd.R_slice HO284.out; subst eo108) | ((with_reducible refine gate_callee (f := 35) rfl ?_); refine goesL_ (some 20) rfl rfl Try.func35 (by kernel_rfl) rfl #[.slice Ao107 t279.length co107, .slice Ao108 t282.length co108] rfl (by (try simp only [List.map_toArray, List.map_cons, List.map_nil]); first | done | rfl | (simp only [List.length_drop, List.length_take]; rfl)) ?_; (with_reducible refine (laws_sameInts.calls k _ _ t279 _ _ t282 false _ ?side1 ?side2 ?side3 ?side4 A6.out).mono ?_); (case side1 => repeat (first | exact (Kd.R_reads' HO281.out).2.2 | (with_reducible refine Kd.C_alloc ?_ _) | (with_reducible refine Kd.C_drewN ?_ _) | (with_reducible refine Kd.C_drew ?_))); (case side2 => exact (Kd.R_reads' HO281.out).2.1); (case side3 => repeat (first | exact (Kd.R_reads' HO284.out).2.2 | (with_reducible refine Kd.C_alloc ?_ _) | (with_reducible refine Kd.C_drewN ?_ _) | (with_reducible refine Kd.C_drew ?_))); (case side4 => exact (Kd.R_reads' HO284.out).2.1); rintro e w' ⟨rfl, ⟨nd, rfl⟩⟩; refine ⟨_, rfl, ?_⟩))
      go_ret
      exact ⟨by first | rfl | (simp [errW_none, errW_some] <;> rfl) | (simp [*, errW_none, errW_some] <;> rfl), by repeat (first | (with_reducible first | exact HB.out | apply below_alloc | apply pw_below_drewN | apply below_drew1 | refine below_set ?_ GE278.out) | exact HB.out)⟩

/-- THE ONE PURE STATEMENT of laws_FnLoopClues: yours. -/
def laws_FnLoopClues.Pure : Prop := ∀ (l0 : List Int), l0.length ≤ maxLen → l0.length * 1 ≤ 140737488351232 → (∀ x ∈ l0, (Lit.int .u8 x).wf = true) → ∃ k, laws_FnLoopClues.f k l0 = some true
theorem laws_FnLoopClues.walk (P : laws_FnLoopClues.Pure) (a0 : Option Addr) (len0 cap0 : Nat) (z0 : List Int) (w : World) (w0 : (a0 = none ∧ len0 = 0 ∧ cap0 = 0 ∧ z0 = []) ∨ ∃ x, a0 = some x ∧ len0 ≤ cap0 ∧ cap0 ≤ maxLen ∧ z0.length = cap0 ∧ (∀ i, i < z0.length → w.cell? (x.add i) = some (.int .u8 (z0.getD i 0))) ∧ ∀ n ∈ z0, (Lit.int .u8 n).wf = true) (y0 : len0 * 1 ≤ 140737488351232) :
    Calls Try.prog 6 #[.slice a0 len0 cap0] w fun e w' => e = .returned (.bool true) ∧ Below w.heap.size w w' := by
  obtain ⟨l0, rfl, hr0, hm0, hw0, hc0⟩ := ReadsInt.ofRowC w0
  obtain ⟨k, h⟩ := P l0 hm0 y0 hw0
  refine (laws_FnLoopClues.calls k _ _ l0 true w (Kd.C_of_reads (d := (0 : Int)) (h1 := fun _ => rfl) hr0) hc0 h).mono ?_
  rintro e w' ⟨rfl, hd⟩
  exact ⟨rfl, hd⟩

end Go.Proofs.Ytdinbpfklikghaa.PFnLoopClues
