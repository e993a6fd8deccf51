/- Functions of the program as plain Lean functions, and what a call of each comes to. No conditions. -/
import Derived.Test.YtdinbpfklikghaaPLoopsx0
import Derived.Test.YtdinbpfklikghaaPLoopsx12
import Derived.Test.YtdinbpfklikghaaPLoopsx16
import Derived.Test.YtdinbpfklikghaaPLoopsx20
import Derived.Test.YtdinbpfklikghaaPLoopsx24
import Derived.Test.YtdinbpfklikghaaPLoopsx31
namespace Go.Proofs.Ytdinbpfklikghaa.PLoops
open Go.RowKit Go.Proofs.YtdinbpfklikghaaW.PrintWords Go.Proofs.YtdinbpfklikghaaW.PrintLast Go.Proofs.YtdinbpfklikghaaW.PrintMore
attribute [local go_sem] max2_int min2_int max_two min_two max_three min_three max_four min_four   -- for this text's walks alone
set_option linter.unusedVariables false
set_option linter.unusedSimpArgs false

/-! ### laws_FnLoopLength: function 7 -/
mutual
def laws_FnLoopLength.l0 : Nat → Int → Int → Int → Int → Int → List (List Bool) → List (List Bool) → Option (Bool)
  | 0, _, _, _, _, _, _, _ => none
  | k + 1, x4, x5, x6, x368000, x368001, x368002, x368003 => if x6 < (x368002.length : Int) then (laws_FnLoopLength.l1 k x4 x5 x6 0 x368000 x368001 x368002 x368003) else (laws_FnLoopLength.l2 k x4 x5 0 x368000 x368001 x368002 x368003)
def laws_FnLoopLength.l1 : Nat → Int → Int → Int → Int → Int → Int → List (List Bool) → List (List Bool) → Option (Bool)
  | 0, _, _, _, _, _, _, _, _ => none
  | k + 1, x4, x5, x6, x7, x368000, x368001, x368002, x368003 => if 0 ≤ x6 then (if x6 < (x368002.length : Int) then (if x7 < ((rd_L1 x368002 x6).length : Int) then (if 0 ≤ x7 then (if rdOf false (rd_L1 x368002 x6) x7 = true then (laws_FnLoopLength.l1 k x4 (wrap64 (x5 + 1)) x6 (wrap64 (x7 + 1)) x368000 x368001 x368002 x368003) else (laws_FnLoopLength.l1 k x4 x5 x6 (wrap64 (x7 + 1)) x368000 x368001 x368002 x368003)) else (none)) else (laws_FnLoopLength.l0 k x4 x5 (wrap64 (x6 + 1)) x368000 x368001 x368002 x368003)) else (none)) else (none)
def laws_FnLoopLength.l2 : Nat → Int → Int → Int → Int → Int → List (List Bool) → List (List Bool) → Option (Bool)
  | 0, _, _, _, _, _, _, _ => none
  | k + 1, x4, x5, x8, x368000, x368001, x368002, x368003 => if x8 < (x368003.length : Int) then (laws_FnLoopLength.l3 k x4 x5 x8 0 x368000 x368001 x368002 x368003) else (if x5 = x4 then ((impl_LoopClosed.f k x368000 x368001 x368002 x368003).bind fun t374 => (if t374 = true then (if x4 ≥ 4 then (some ((Int.tmod x4 2) == 0)) else (some false)) else (some true))) else (some false))
def laws_FnLoopLength.l3 : Nat → Int → Int → Int → Int → Int → Int → List (List Bool) → List (List Bool) → Option (Bool)
  | 0, _, _, _, _, _, _, _, _ => none
  | k + 1, x4, x5, x8, x9, x368000, x368001, x368002, x368003 => if 0 ≤ x8 then (if x8 < (x368003.length : Int) then (if x9 < ((rd_L1 x368003 x8).length : Int) then (if 0 ≤ x9 then (if rdOf false (rd_L1 x368003 x8) x9 = true then (laws_FnLoopLength.l3 k x4 (wrap64 (x5 + 1)) x8 (wrap64 (x9 + 1)) x368000 x368001 x368002 x368003) else (laws_FnLoopLength.l3 k x4 x5 x8 (wrap64 (x9 + 1)) x368000 x368001 x368002 x368003)) else (none)) else (laws_FnLoopLength.l2 k x4 x5 (wrap64 (x8 + 1)) x368000 x368001 x368002 x368003)) else (none)) else (none)
end
def laws_FnLoopLength.f (k : Nat) (l0 : List Int) : Option (Bool) := if (l0.length : Int) > 1048576 then (some true) else ((spec_DrawLoopLength.f k l0).bind fun bt359 => ((impl_LoopLength.f k bt359.1 bt359.2.1 bt359.2.2.1 bt359.2.2.2).bind fun t368 => ((spec_LoopLength.f k bt359.1 bt359.2.1 bt359.2.2.1 bt359.2.2.2).bind fun t369 => (if t368 = t369 then (if t368 < 0 then (if t368 = (-1) then ((laws_alive.f k).bind fun t370 => (some t370)) else (some false)) else (laws_FnLoopLength.l0 k t368 0 0 bt359.1 bt359.2.1 bt359.2.2.1 bt359.2.2.2)) else (some false)))))
theorem laws_FnLoopLength.mono_l : ∀ k, (∀ y0 y1 y2 y3 y4 y5 y6, LeO (laws_FnLoopLength.l0 k y0 y1 y2 y3 y4 y5 y6) (laws_FnLoopLength.l0 (k + 1) y0 y1 y2 y3 y4 y5 y6)) ∧ (∀ y0 y1 y2 y3 y4 y5 y6 y7, LeO (laws_FnLoopLength.l1 k y0 y1 y2 y3 y4 y5 y6 y7) (laws_FnLoopLength.l1 (k + 1) y0 y1 y2 y3 y4 y5 y6 y7)) ∧ (∀ y0 y1 y2 y3 y4 y5 y6, LeO (laws_FnLoopLength.l2 k y0 y1 y2 y3 y4 y5 y6) (laws_FnLoopLength.l2 (k + 1) y0 y1 y2 y3 y4 y5 y6)) ∧ (∀ y0 y1 y2 y3 y4 y5 y6 y7, LeO (laws_FnLoopLength.l3 k y0 y1 y2 y3 y4 y5 y6 y7) (laws_FnLoopLength.l3 (k + 1) y0 y1 y2 y3 y4 y5 y6 y7))
  | 0 => ⟨fun _ _ _ _ _ _ _ r h => by simp [laws_FnLoopLength.l0] at h, fun _ _ _ _ _ _ _ _ r h => by simp [laws_FnLoopLength.l1] at h, fun _ _ _ _ _ _ _ r h => by simp [laws_FnLoopLength.l2] at h, fun _ _ _ _ _ _ _ _ r h => by simp [laws_FnLoopLength.l3] at h⟩
  | k + 1 => by
    obtain ⟨ih0, ih1, ih2, ih3⟩ := laws_FnLoopLength.mono_l k
    refine ⟨?_, ?_, ?_, ?_⟩
    · intro y0 y1 y2 y3 y4 y5 y6
      unfold laws_FnLoopLength.l0
      repeat' first
      | (with_reducible exact ih0 _ _ _ _ _ _ _)
      | (with_reducible exact ih1 _ _ _ _ _ _ _ _)
      | (with_reducible exact ih2 _ _ _ _ _ _ _)
      | (with_reducible exact ih3 _ _ _ _ _ _ _ _)
      | (with_reducible exact impl_LoopClosed.mono _ _ _ _ _)
      | (with_reducible exact impl_LoopLength.mono _ _ _ _ _)
      | (with_reducible exact laws_alive.mono _)
      | (with_reducible exact spec_DrawLoopLength.mono _ _)
      | (with_reducible exact spec_LoopLength.mono _ _ _ _ _)
      | (with_reducible exact LeO.refl _)
      | (with_reducible exact LeO.none _)
      | (with_reducible refine LeO.ite ?_ ?_)
      | (with_reducible refine LeO.bind ?_ (fun _ => ?_))
      | exact ih0 _ _ _ _ _ _ _
      | exact ih1 _ _ _ _ _ _ _ _
      | exact ih2 _ _ _ _ _ _ _
      | exact ih3 _ _ _ _ _ _ _ _
      | exact impl_LoopClosed.mono _ _ _ _ _
      | exact impl_LoopLength.mono _ _ _ _ _
      | exact laws_alive.mono _
      | exact spec_DrawLoopLength.mono _ _
      | exact spec_LoopLength.mono _ _ _ _ _
      | exact LeO.none _
      | refine LeO.ite ?_ ?_
      | refine LeO.bind ?_ (fun _ => ?_)
    · intro y0 y1 y2 y3 y4 y5 y6 y7
      unfold laws_FnLoopLength.l1
      repeat' first
      | (with_reducible exact ih0 _ _ _ _ _ _ _)
      | (with_reducible exact ih1 _ _ _ _ _ _ _ _)
      | (with_reducible exact ih2 _ _ _ _ _ _ _)
      | (with_reducible exact ih3 _ _ _ _ _ _ _ _)
      | (with_reducible exact impl_LoopClosed.mono _ _ _ _ _)
      | (with_reducible exact impl_LoopLength.mono _ _ _ _ _)
      | (with_reducible exact laws_alive.mono _)
      | (with_reducible exact spec_DrawLoopLength.mono _ _)
      | (with_reducible exact spec_LoopLength.mono _ _ _ _ _)
      | (with_reducible exact LeO.refl _)
      | (with_reducible exact LeO.none _)
      | (with_reducible refine LeO.ite ?_ ?_)
      | (with_reducible refine LeO.bind ?_ (fun _ => ?_))
      | exact ih0 _ _ _ _ _ _ _
      | exact ih1 _ _ _ _ _ _ _ _
      | exact ih2 _ _ _ _ _ _ _
      | exact ih3 _ _ _ _ _ _ _ _
      | exact impl_LoopClosed.mono _ _ _ _ _
      | exact impl_LoopLength.mono _ _ _ _ _
      | exact laws_alive.mono _
      | exact spec_DrawLoopLength.mono _ _
      | exact spec_LoopLength.mono _ _ _ _ _
      | exact LeO.none _
      | refine LeO.ite ?_ ?_
      | refine LeO.bind ?_ (fun _ => ?_)
    · intro y0 y1 y2 y3 y4 y5 y6
      unfold laws_FnLoopLength.l2
      repeat' first
      | (with_reducible exact ih0 _ _ _ _ _ _ _)
      | (with_reducible exact ih1 _ _ _ _ _ _ _ _)
      | (with_reducible exact ih2 _ _ _ _ _ _ _)
      | (with_reducible exact ih3 _ _ _ _ _ _ _ _)
      | (with_reducible exact impl_LoopClosed.mono _ _ _ _ _)
      | (with_reducible exact impl_LoopLength.mono _ _ _ _ _)
      | (with_reducible exact laws_alive.mono _)
      | (with_reducible exact spec_DrawLoopLength.mono _ _)
      | (with_reducible exact spec_LoopLength.mono _ _ _ _ _)
      | (with_reducible exact LeO.refl _)
      | (with_reducible exact LeO.none _)
      | (with_reducible refine LeO.ite ?_ ?_)
      | (with_reducible refine LeO.bind ?_ (fun _ => ?_))
      | exact ih0 _ _ _ _ _ _ _
      | exact ih1 _ _ _ _ _ _ _ _
      | exact ih2 _ _ _ _ _ _ _
      | exact ih3 _ _ _ _ _ _ _ _
      | exact impl_LoopClosed.mono _ _ _ _ _
      | exact impl_LoopLength.mono _ _ _ _ _
      | exact laws_alive.mono _
      | exact spec_DrawLoopLength.mono _ _
      | exact spec_LoopLength.mono _ _ _ _ _
      | exact LeO.none _
      | refine LeO.ite ?_ ?_
      | refine LeO.bind ?_ (fun _ => ?_)
    · intro y0 y1 y2 y3 y4 y5 y6 y7
      unfold laws_FnLoopLength.l3
      repeat' first
      | (with_reducible exact ih0 _ _ _ _ _ _ _)
      | (with_reducible exact ih1 _ _ _ _ _ _ _ _)
      | (with_reducible exact ih2 _ _ _ _ _ _ _)
      | (with_reducible exact ih3 _ _ _ _ _ _ _ _)
      | (with_reducible exact impl_LoopClosed.mono _ _ _ _ _)
      | (with_reducible exact impl_LoopLength.mono _ _ _ _ _)
      | (with_reducible exact laws_alive.mono _)
      | (with_reducible exact spec_DrawLoopLength.mono _ _)
      | (with_reducible exact spec_LoopLength.mono _ _ _ _ _)
      | (with_reducible exact LeO.refl _)
      | (with_reducible exact LeO.none _)
      | (with_reducible refine LeO.ite ?_ ?_)
      | (with_reducible refine LeO.bind ?_ (fun _ => ?_))
      | exact ih0 _ _ _ _ _ _ _
      | exact ih1 _ _ _ _ _ _ _ _
      | exact ih2 _ _ _ _ _ _ _
      | exact ih3 _ _ _ _ _ _ _ _
      | exact impl_LoopClosed.mono _ _ _ _ _
      | exact impl_LoopLength.mono _ _ _ _ _
      | exact laws_alive.mono _
      | exact spec_DrawLoopLength.mono _ _
      | exact spec_LoopLength.mono _ _ _ _ _
      | exact LeO.none _
      | refine LeO.ite ?_ ?_
      | refine LeO.bind ?_ (fun _ => ?_)
theorem laws_FnLoopLength.mono : ∀ a0 k, LeO (laws_FnLoopLength.f k a0) (laws_FnLoopLength.f (k + 1) a0) := by
  intro a0 k
  obtain ⟨ih0, ih1, ih2, ih3⟩ := laws_FnLoopLength.mono_l k
  unfold laws_FnLoopLength.f
  repeat' first
      | (with_reducible exact ih0 _ _ _ _ _ _ _)
      | (with_reducible exact ih1 _ _ _ _ _ _ _ _)
      | (with_reducible exact ih2 _ _ _ _ _ _ _)
      | (with_reducible exact ih3 _ _ _ _ _ _ _ _)
      | (with_reducible exact impl_LoopClosed.mono _ _ _ _ _)
      | (with_reducible exact impl_LoopLength.mono _ _ _ _ _)
      | (with_reducible exact laws_alive.mono _)
      | (with_reducible exact spec_DrawLoopLength.mono _ _)
      | (with_reducible exact spec_LoopLength.mono _ _ _ _ _)
      | (with_reducible exact LeO.refl _)
      | (with_reducible exact LeO.none _)
      | (with_reducible refine LeO.ite ?_ ?_)
      | (with_reducible refine LeO.bind ?_ (fun _ => ?_))
      | exact ih0 _ _ _ _ _ _ _
      | exact ih1 _ _ _ _ _ _ _ _
      | exact ih2 _ _ _ _ _ _ _
      | exact ih3 _ _ _ _ _ _ _ _
      | exact impl_LoopClosed.mono _ _ _ _ _
      | exact impl_LoopLength.mono _ _ _ _ _
      | exact laws_alive.mono _
      | exact spec_DrawLoopLength.mono _ _
      | exact spec_LoopLength.mono _ _ _ _ _
      | exact LeO.none _
      | refine LeO.ite ?_ ?_
      | refine LeO.bind ?_ (fun _ => ?_)
set_option maxHeartbeats 8000000 in
set_option maxRecDepth 100000 in
theorem laws_FnLoopLength.calls (k : Nat) (A0 : Option Addr) (c0 : Nat) (l0 : List Int) (r : Bool) (w : World) (hr0 : Kd.C (Kd.int .u8) w A0 l0.length l0) (hc0 : l0.length ≤ c0) (h : laws_FnLoopLength.f k l0 = some r) :
    Calls Try.prog 7 #[.slice A0 l0.length c0] w fun e w' => e = .returned (.bool r) ∧ Below w.heap.size w w' := by
  have hu27 := Try.underlying27
  have HR0 := Aside0.mk hr0
  have HC0 := Aside0.mk hc0
  clear hr0 hc0
  have HB := Aside0.mk (Below.refl w.heap.size w)
  have H : (if (l0.length : Int) > 1048576 then (some true) else ((spec_DrawLoopLength.f k l0).bind fun bt359 => ((impl_LoopLength.f k bt359.1 bt359.2.1 bt359.2.2.1 bt359.2.2.2).bind fun t368 => ((spec_LoopLength.f k bt359.1 bt359.2.1 bt359.2.2.1 bt359.2.2.2).bind fun t369 => (if t368 = t369 then (if t368 < 0 then (if t368 = (-1) then ((laws_alive.f k).bind fun t370 => (some t370)) else (some false)) else (laws_FnLoopLength.l0 k t368 0 0 bt359.1 bt359.2.1 bt359.2.2.1 bt359.2.2.2)) else (some false)))))) = some r := h
  clear h
  by_cases c2 : (l0.length : Int) > 1048576
  · rw [if_pos c2] at H
    have c2b0 : decide (1048576 < (l0.length : Int)) = true := decide_eq_true c2
    have c2b1 : decide (1048576 < l0.length) = true := decide_eq_true (by omega)
    clear c2
    obtain rfl := Option.some.inj H
    go_enter Try.func7, Try.ntmps7
    go_wp2
    go_ret
    exact ⟨by first | rfl | (simp [errW_none, errW_some] <;> rfl) | (simp [*, errW_none, errW_some] <;> rfl), by repeat (first | (with_reducible first | exact HB.out | apply below_alloc | apply pw_below_drewN | apply below_drew1) | exact HB.out)⟩
  · rw [if_neg c2] at H
    have c2b0 : decide (1048576 < (l0.length : Int)) = false := decide_eq_false c2
    have c2b1 : decide (1048576 < l0.length) = false := decide_eq_false (by omega)
    clear c2
    replace H := Option.bind_eq_some_iff.mp H
    obtain ⟨⟨t359, t360, t361, t364⟩, A30, H⟩ := H
    replace H : ((impl_LoopLength.f k t359 t360 t361 t364).bind fun t368 => ((spec_LoopLength.f k t359 t360 t361 t364).bind fun t369 => (if t368 = t369 then (if t368 < 0 then (if t368 = (-1) then ((laws_alive.f k).bind fun t370 => (some t370)) else (some false)) else (laws_FnLoopLength.l0 k t368 0 0 t359 t360 t361 t364)) else (some false)))) = some r := H
    have A3 := Aside0.mk A30
    clear A30
    replace H := Option.bind_eq_some_iff.mp H
    obtain ⟨t368, A40, H⟩ := H
    replace H : ((spec_LoopLength.f k t359 t360 t361 t364).bind fun t369 => (if t368 = t369 then (if t368 < 0 then (if t368 = (-1) then ((laws_alive.f k).bind fun t370 => (some t370)) else (some false)) else (laws_FnLoopLength.l0 k t368 0 0 t359 t360 t361 t364)) else (some false))) = some r := H
    have A4 := Aside0.mk A40
    clear A40
    replace H := Option.bind_eq_some_iff.mp H
    obtain ⟨t369, A50, H⟩ := H
    replace H : (if t368 = t369 then (if t368 < 0 then (if t368 = (-1) then ((laws_alive.f k).bind fun t370 => (some t370)) else (some false)) else (laws_FnLoopLength.l0 k t368 0 0 t359 t360 t361 t364)) else (some false)) = some r := H
    have A5 := Aside0.mk A50
    clear A50
    by_cases c6 : t368 = t369
    · rw [if_pos c6] at H
      have c6b0 : (t368 == t369) = true := beq_iff_eq.mpr c6
      have c6b1 : (t368 != t369) = false := bne_eq_false_iff_eq.mpr c6
      clear c6
      by_cases c7 : t368 < 0
      · rw [if_pos c7] at H
        have c7b0 : decide (t368 < 0) = true := decide_eq_true c7
        clear c7
        by_cases c8 : t368 = (-1)
        · rw [if_pos c8] at H
          have c8b0 : (t368 == (-1)) = true := beq_iff_eq.mpr c8
          have c8b1 : (t368 != (-1)) = false := bne_eq_false_iff_eq.mpr c8
          clear c8
          replace H := Option.bind_eq_some_iff.mp H
          obtain ⟨t370, A90, H⟩ := H
          replace H : (some t370) = some r := H
          have A9 := Aside0.mk A90
          clear A90
          obtain rfl := Option.some.inj H
          go_enter Try.func7, Try.ntmps7
          go_wp2_with (first | ((with_reducible refine gate_callee (f := 37) rfl ?_); refine goesL_ (some 14) rfl rfl Try.func37 (by kernel_rfl) rfl #[.slice A0 l0.length c0] rfl (by (try simp only [List.map_toArray, List.map_cons, List.map_nil]); first | done | rfl | (simp only [List.length_drop, List.length_take]; rfl)) ?_; (with_reducible refine (spec_DrawLoopLength.calls k _ _ l0 t359 t360 t361 t364 _ ?side1 ?side2 A3.out).mono ?_); (case side1 => repeat (first | exact HR0.out | (with_reducible refine Kd.C_alloc ?_ _) | (with_reducible refine Kd.C_drewN ?_ _) | (with_reducible refine Kd.C_drew ?_))); (case side2 => exact HC0.out); rintro e w10 ⟨v362, v365, rfl, ho0, ho1, hb⟩; refine ⟨_, rfl, ?_⟩; have n0_ := Aside0.mk (Kd.Q_lower ho0 (below_size (by repeat (first | (with_reducible first | exact HB.out | apply below_alloc | apply pw_below_drewN | apply below_drew1) | exact HB.out)))); have n1_ := Aside0.mk (Kd.S_lower ho1 (below_size (by repeat (first | (with_reducible first | exact HB.out | apply below_alloc | apply pw_below_drewN | apply below_drew1) | exact HB.out)))); have n2_ := Aside0.mk (below_step (by repeat (first | (with_reducible first | exact HB.out | apply below_alloc | apply pw_below_drewN | apply below_drew1) | exact HB.out)) hb); clear HB; have HO363 := n0_; have HO366 := n1_; have HB := n2_; clear n0_ n1_ n2_; (try clear hb); (try clear hb2); (try clear hk); (try clear hi); (try clear ho0); (try clear ho1)) | ((with_reducible refine gate_dst (N := 3) rfl ?_); refine box_event ?hg (N := 3) ?hd (cs := #[.int .i64 0, .int .i64 0, .slice none 0 0, .slice none 0 0]) (t := 27) ?hr ?_; (case hd => rfl); (case hg => rfl); (case hr => first | (go_simp; done) | (go_simp; rfl)); intro gb367 hg w11 hbox hb; have n0_ := Aside0.mk (Kd.Q_below (by (with_reducible repeat (first | apply Kd.Q_alloc | apply Kd.Q_drewN | apply Kd.Q_drew)); exact HO363.out) hb); have n1_ := Aside0.mk (Kd.S_below (by (with_reducible repeat (first | apply Kd.S_alloc | apply Kd.S_drewN | apply Kd.S_drew)); exact HO366.out) hb); have n2_ := Aside0.mk (below_step (by repeat (first | (with_reducible first | exact HB.out | apply below_alloc | apply pw_below_drewN | apply below_drew1) | exact HB.out)) hb); have n3_ := Aside0.mk (hbox); have n4_ := Aside0.mk ((by rw [hg]; exact (below_size (by repeat (first | (with_reducible first | exact HB.out | apply below_alloc | apply pw_below_drewN | apply below_drew1) | exact HB.out))) : w.heap.size ≤ gb367)); have n5_ := Aside0.mk ((by rw [hg]; exact (below_size (by repeat (first | (with_reducible first | exact HB.out | apply below_alloc | apply pw_below_drewN | apply below_drew1) | exact HB.out))) : w.heap.size ≤ gb367)); clear HO363; clear HO366; clear HB; have HO363 := n0_; have HO366 := n1_; have HB := n2_; have BK367 := n3_; have GW367 := n4_; have GE367 := n5_; clear n0_ n1_ n2_ n3_ n4_ n5_; clear hb hbox hg; have hcz12_0 : w11.cell? ⟨gb367, 0, none⟩ = some (.int .i64 0) := (blk_cell BK367.out 0).trans rfl; have hcz12_1 : w11.cell? ⟨gb367, 1, none⟩ = some (.int .i64 0) := (blk_cell BK367.out 1).trans rfl; have hcz12_2 : w11.cell? ⟨gb367, 2, none⟩ = some (.slice none 0 0) := (blk_cell BK367.out 2).trans rfl; have hcz12_3 : w11.cell? ⟨gb367, 3, none⟩ = some (.slice none 0 0) := (blk_cell BK367.out 3).trans rfl; have hfz12_0 := blk_frozen BK367.out 0; have hfz12_1 := blk_frozen BK367.out 1; have hfz12_2 := blk_frozen BK367.out 2; have hfz12_3 := blk_frozen BK367.out 3; obtain ⟨Ao13, co13, eo13, _⟩ := Kd.Q_slice HO363.out; subst eo13; obtain ⟨Ao14, co14, eo14⟩ := Kd.S_slice HO366.out; subst eo14) | ((with_reducible refine gate_callee (f := 21) rfl ?_); refine goesL_ (some 16) rfl rfl Try.func21 (by kernel_rfl) rfl #[.agg #[.int .i64 t359, .int .i64 t360, .slice Ao13 t361.length co13, .slice Ao14 t364.length co14]] rfl (by (try simp only [List.map_toArray, List.map_cons, List.map_nil]); first | done | rfl | (simp only [List.length_drop, List.length_take]; rfl)) ?_; (with_reducible refine (impl_LoopLength.calls k t359 t360 _ _ t361 _ _ t364 t368 _ ?side1 ?side2 ?side3 ?side4 A4.out).mono ?_); (case side1 => refine (Kd.Q_reads' (e := 45) (base := w.heap.size) (ok := fun k_ => some k_ ≠ (.slice Ao14 t364.length co14 : Value).ownBlock) (n := t361.length) (c := co13) ?_).2.2; exact (by (with_reducible repeat (first | apply Kd.Q_alloc | apply Kd.Q_drewN | apply Kd.Q_drew)); exact (Kd.Q_mono (Kd.Q_far (p := ⟨gb367, 3, none⟩) (Kd.Q_far (p := ⟨gb367, 2, none⟩) (Kd.Q_far (p := ⟨gb367, 1, none⟩) (Kd.Q_far (p := ⟨gb367, 0, none⟩) (Kd.Q_types HO363.out BK367.out (by decide)) (fun _ hk => hk.2) (.int .i64 t359)) (fun _ hk => hk.2) (.int .i64 t360)) (fun _ hk => hk.2) (.slice Ao13 t361.length co13)) (fun _ hk => hk.2) (.slice Ao14 t364.length co14)) (fun _ h_ => h_.1)))); (case side2 => exact (Kd.Q_reads' HO363.out).2.1); (case side3 => refine (Kd.S_reads' (e := 45) (base := w.heap.size) (ok := fun k_ => some k_ ≠ (.slice Ao13 t361.length co13 : Value).ownBlock) (n := t364.length) (c := co14) ?_).2.2; exact (by (with_reducible repeat (first | apply Kd.S_alloc | apply Kd.S_drewN | apply Kd.S_drew)); exact (Kd.S_mono (Kd.S_far (p := ⟨gb367, 3, none⟩) (Kd.S_far (p := ⟨gb367, 2, none⟩) (Kd.S_far (p := ⟨gb367, 1, none⟩) (Kd.S_far (p := ⟨gb367, 0, none⟩) (Kd.S_types HO366.out BK367.out (by decide)) (fun _ hk => hk.2) (.int .i64 t359)) (fun _ hk => hk.2) (.int .i64 t360)) (fun _ hk => hk.2) (.slice Ao13 t361.length co13)) (fun _ hk => hk.2) (.slice Ao14 t364.length co14)) (fun _ h_ => h_.1)))); (case side4 => exact (Kd.S_reads' HO366.out).2.1); rintro e w15 ⟨rfl, hb⟩; refine ⟨_, rfl, ?_⟩; have n0_ := Aside0.mk (Kd.Q_below (by (with_reducible repeat (first | apply Kd.Q_alloc | apply Kd.Q_drewN | apply Kd.Q_drew)); exact (Kd.Q_mono (Kd.Q_far (p := ⟨gb367, 3, none⟩) (Kd.Q_far (p := ⟨gb367, 2, none⟩) (Kd.Q_far (p := ⟨gb367, 1, none⟩) (Kd.Q_far (p := ⟨gb367, 0, none⟩) (Kd.Q_types HO363.out BK367.out (by decide)) (fun _ hk => hk.2) (.int .i64 t359)) (fun _ hk => hk.2) (.int .i64 t360)) (fun _ hk => hk.2) (.slice Ao13 t361.length co13)) (fun _ hk => hk.2) (.slice Ao14 t364.length co14)) (fun _ h_ => h_.1))) hb); have n1_ := Aside0.mk (Kd.S_below (by (with_reducible repeat (first | apply Kd.S_alloc | apply Kd.S_drewN | apply Kd.S_drew)); exact (Kd.S_mono (Kd.S_far (p := ⟨gb367, 3, none⟩) (Kd.S_far (p := ⟨gb367, 2, none⟩) (Kd.S_far (p := ⟨gb367, 1, none⟩) (Kd.S_far (p := ⟨gb367, 0, none⟩) (Kd.S_types HO366.out BK367.out (by decide)) (fun _ hk => hk.2) (.int .i64 t359)) (fun _ hk => hk.2) (.int .i64 t360)) (fun _ hk => hk.2) (.slice Ao13 t361.length co13)) (fun _ hk => hk.2) (.slice Ao14 t364.length co14)) (fun _ h_ => h_.1))) hb); have n2_ := Aside0.mk (blk_below (g := gb367) (o := .cells #[.int .i64 t359, .int .i64 t360, .slice Ao13 t361.length co13, .slice Ao14 t364.length co14] 27 (0, 0)) (by (with_reducible repeat (first | refine blk_drewN ?_ _ | refine blk_drew ?_ | refine blk_alloc ?_ _)); refine blk_put (cs := #[.int .i64 t359, .int .i64 t360, .slice Ao13 t361.length co13, .slice none 0 0]) ?_ 3 _ rfl; (with_reducible repeat (first | refine blk_drewN ?_ _ | refine blk_drew ?_ | refine blk_alloc ?_ _)); refine blk_put (cs := #[.int .i64 t359, .int .i64 t360, .slice none 0 0, .slice none 0 0]) ?_ 2 _ rfl; (with_reducible repeat (first | refine blk_drewN ?_ _ | refine blk_drew ?_ | refine blk_alloc ?_ _)); refine blk_put (cs := #[.int .i64 t359, .int .i64 0, .slice none 0 0, .slice none 0 0]) ?_ 1 _ rfl; (with_reducible repeat (first | refine blk_drewN ?_ _ | refine blk_drew ?_ | refine blk_alloc ?_ _)); refine blk_put (cs := #[.int .i64 0, .int .i64 0, .slice none 0 0, .slice none 0 0]) ?_ 0 _ rfl; (with_reducible repeat (first | refine blk_drewN ?_ _ | refine blk_drew ?_ | refine blk_alloc ?_ _)); exact BK367.out) hb); have n3_ := Aside0.mk (below_step (by repeat (first | (with_reducible first | exact HB.out | apply below_alloc | apply pw_below_drewN | apply below_drew1 | refine below_set ?_ GE367.out) | exact HB.out)) hb); clear HO363; clear HO366; clear BK367; clear HB; have HO363 := n0_; have HO366 := n1_; have BK367 := n2_; have HB := n3_; clear n0_ n1_ n2_ n3_; (try clear hb); (try clear hb2); (try clear hk); (try clear hi); have hcz16_0 : w15.cell? ⟨gb367, 0, none⟩ = some (.int .i64 t359) := (blk_cell BK367.out 0).trans rfl; have hcz16_1 : w15.cell? ⟨gb367, 1, none⟩ = some (.int .i64 t360) := (blk_cell BK367.out 1).trans rfl; have hcz16_2 : w15.cell? ⟨gb367, 2, none⟩ = some (.slice Ao13 t361.length co13) := (blk_cell BK367.out 2).trans rfl; have hcz16_3 : w15.cell? ⟨gb367, 3, none⟩ = some (.slice Ao14 t364.length co14) := (blk_cell BK367.out 3).trans rfl; have hfz16_0 := blk_frozen BK367.out 0; have hfz16_1 := blk_frozen BK367.out 1; have hfz16_2 := blk_frozen BK367.out 2; have hfz16_3 := blk_frozen BK367.out 3) | ((with_reducible refine gate_callee (f := 19) rfl ?_); refine goesL_ (some 19) rfl rfl Try.func19 (by kernel_rfl) rfl #[.agg #[.int .i64 t359, .int .i64 t360, .slice Ao13 t361.length co13, .slice Ao14 t364.length co14]] rfl (by (try simp only [List.map_toArray, List.map_cons, List.map_nil]); first | done | rfl | (simp only [List.length_drop, List.length_take]; rfl)) ?_; (with_reducible refine (spec_LoopLength.calls k t359 t360 _ _ t361 _ _ t364 t369 _ ?side1 ?side2 ?side3 ?side4 A5.out).mono ?_); (case side1 => repeat (first | exact (Kd.Q_reads' HO363.out).2.2 | (with_reducible refine Kd.C_alloc ?_ _) | (with_reducible refine Kd.C_drewN ?_ _) | (with_reducible refine Kd.C_drew ?_))); (case side2 => exact (Kd.Q_reads' HO363.out).2.1); (case side3 => repeat (first | exact (Kd.S_reads' HO366.out).2.2 | (with_reducible refine Kd.C_alloc ?_ _) | (with_reducible refine Kd.C_drewN ?_ _) | (with_reducible refine Kd.C_drew ?_))); (case side4 => exact (Kd.S_reads' HO366.out).2.1); rintro e w17 ⟨rfl, hb⟩; refine ⟨_, rfl, ?_⟩; have n0_ := Aside0.mk (Kd.Q_below (by (with_reducible repeat (first | apply Kd.Q_alloc | apply Kd.Q_drewN | apply Kd.Q_drew)); exact HO363.out) hb); have n1_ := Aside0.mk (Kd.S_below (by (with_reducible repeat (first | apply Kd.S_alloc | apply Kd.S_drewN | apply Kd.S_drew)); exact HO366.out) hb); have n2_ := Aside0.mk (blk_below (g := gb367) (o := .cells #[.int .i64 t359, .int .i64 t360, .slice Ao13 t361.length co13, .slice Ao14 t364.length co14] 27 (0, 0)) (by (with_reducible repeat (first | refine blk_drewN ?_ _ | refine blk_drew ?_ | refine blk_alloc ?_ _)); exact BK367.out) hb); have n3_ := Aside0.mk (below_step (by repeat (first | (with_reducible first | exact HB.out | apply below_alloc | apply pw_below_drewN | apply below_drew1 | refine below_set ?_ GE367.out) | exact HB.out)) hb); clear HO363; clear HO366; clear BK367; clear HB; have HO363 := n0_; have HO366 := n1_; have BK367 := n2_; have HB := n3_; clear n0_ n1_ n2_ n3_; (try clear hb); (try clear hb2); (try clear hk); (try clear hi)) | (go_at_call 27; (with_reducible refine (laws_alive.calls k  t370 _ A9.out).mono ?_); rintro e w18 ⟨rfl, hb⟩; have n0_ := Aside0.mk (Kd.Q_below (by (with_reducible repeat (first | apply Kd.Q_alloc | apply Kd.Q_drewN | apply Kd.Q_drew)); exact HO363.out) hb); have n1_ := Aside0.mk (Kd.S_below (by (with_reducible repeat (first | apply Kd.S_alloc | apply Kd.S_drewN | apply Kd.S_drew)); exact HO366.out) hb); have n2_ := Aside0.mk (blk_below (g := gb367) (o := .cells #[.int .i64 t359, .int .i64 t360, .slice Ao13 t361.length co13, .slice Ao14 t364.length co14] 27 (0, 0)) (by (with_reducible repeat (first | refine blk_drewN ?_ _ | refine blk_drew ?_ | refine blk_alloc ?_ _)); exact BK367.out) hb); have n3_ := Aside0.mk (below_step (by repeat (first | (with_reducible first | exact HB.out | apply below_alloc | apply pw_below_drewN | apply below_drew1 | refine below_set ?_ GE367.out) | exact HB.out)) hb); clear HO363; clear HO366; clear BK367; clear HB; have HO363 := n0_; have HO366 := n1_; have BK367 := n2_; have HB := n3_; clear n0_ n1_ n2_ n3_; (try clear hb); (try clear hb2); (try clear hk); (try clear hi)))
          go_ret
          exact ⟨by first | rfl | (simp [errW_none, errW_some] <;> rfl) | (simp [*, errW_none, errW_some] <;> rfl), by repeat (first | (with_reducible first | exact HB.out | apply below_alloc | apply pw_below_drewN | apply below_drew1 | refine below_set ?_ GE367.out) | exact HB.out)⟩
        · rw [if_neg c8] at H
          have c8b0 : (t368 == (-1)) = false := beq_eq_false_iff_ne.mpr c8
          have c8b1 : (t368 != (-1)) = true := bne_iff_ne.mpr c8
          obtain rfl := Option.some.inj H
          go_enter Try.func7, Try.ntmps7
          go_wp2_with (first | ((with_reducible refine gate_callee (f := 37) rfl ?_); refine goesL_ (some 14) rfl rfl Try.func37 (by kernel_rfl) rfl #[.slice A0 l0.length c0] rfl (by (try simp only [List.map_toArray, List.map_cons, List.map_nil]); first | done | rfl | (simp only [List.length_drop, List.length_take]; rfl)) ?_; (with_reducible refine (spec_DrawLoopLength.calls k _ _ l0 t359 t360 t361 t364 _ ?side1 ?side2 A3.out).mono ?_); (case side1 => repeat (first | exact HR0.out | (with_reducible refine Kd.C_alloc ?_ _) | (with_reducible refine Kd.C_drewN ?_ _) | (with_reducible refine Kd.C_drew ?_))); (case side2 => exact HC0.out); rintro e w19 ⟨v362, v365, rfl, ho0, ho1, hb⟩; refine ⟨_, rfl, ?_⟩; have n0_ := Aside0.mk (Kd.Q_lower ho0 (below_size (by repeat (first | (with_reducible first | exact HB.out | apply below_alloc | apply pw_below_drewN | apply below_drew1) | exact HB.out)))); have n1_ := Aside0.mk (Kd.S_lower ho1 (below_size (by repeat (first | (with_reducible first | exact HB.out | apply below_alloc | apply pw_below_drewN | apply below_drew1) | exact HB.out)))); have n2_ := Aside0.mk (below_step (by repeat (first | (with_reducible first | exact HB.out | apply below_alloc | apply pw_below_drewN | apply below_drew1) | exact HB.out)) hb); clear HB; have HO363 := n0_; have HO366 := n1_; have HB := n2_; clear n0_ n1_ n2_; (try clear hb); (try clear hb2); (try clear hk); (try clear hi); (try clear ho0); (try clear ho1)) | ((with_reducible refine gate_dst (N := 3) rfl ?_); refine box_event ?hg (N := 3) ?hd (cs := #[.int .i64 0, .int .i64 0, .slice none 0 0, .slice none 0 0]) (t := 27) ?hr ?_; (case hd => rfl); (case hg => rfl); (case hr => first | (go_simp; done) | (go_simp; rfl)); intro gb367 hg w20 hbox hb; have n0_ := Aside0.mk (Kd.Q_below (by (with_reducible repeat (first | apply Kd.Q_alloc | apply Kd.Q_drewN | apply Kd.Q_drew)); exact HO363.out) hb); have n1_ := Aside0.mk (Kd.S_below (by (with_reducible repeat (first | apply Kd.S_alloc | apply Kd.S_drewN | apply Kd.S_drew)); exact HO366.out) hb); have n2_ := Aside0.mk (below_step (by repeat (first | (with_reducible first | exact HB.out | apply below_alloc | apply pw_below_drewN | apply below_drew1) | exact HB.out)) hb); have n3_ := Aside0.mk (hbox); have n4_ := Aside0.mk ((by rw [hg]; exact (below_size (by repeat (first | (with_reducible first | exact HB.out | apply below_alloc | apply pw_below_drewN | apply below_drew1) | exact HB.out))) : w.heap.size ≤ gb367)); have n5_ := Aside0.mk ((by rw [hg]; exact (below_size (by repeat (first | (with_reducible first | exact HB.out | apply below_alloc | apply pw_below_drewN | apply below_drew1) | exact HB.out))) : w.heap.size ≤ gb367)); clear HO363; clear HO366; clear HB; have HO363 := n0_; have HO366 := n1_; have HB := n2_; have BK367 := n3_; have GW367 := n4_; have GE367 := n5_; clear n0_ n1_ n2_ n3_ n4_ n5_; clear hb hbox hg; have hcz21_0 : w20.cell? ⟨gb367, 0, none⟩ = some (.int .i64 0) := (blk_cell BK367.out 0).trans rfl; have hcz21_1 : w20.cell? ⟨gb367, 1, none⟩ = some (.int .i64 0) := (blk_cell BK367.out 1).trans rfl; have hcz21_2 : w20.cell? ⟨gb367, 2, none⟩ = some (.slice none 0 0) := (blk_cell BK367.out 2).trans rfl; have hcz21_3 : w20.cell? ⟨gb367, 3, none⟩ = some (.slice none 0 0) := (blk_cell BK367.out 3).trans rfl; have hfz21_0 := blk_frozen BK367.out 0; have hfz21_1 := blk_frozen BK367.out 1; have hfz21_2 := blk_frozen BK367.out 2; have hfz21_3 := blk_frozen BK367.out 3; obtain ⟨Ao22, co22, eo22, _⟩ := Kd.Q_slice HO363.out; subst eo22; obtain ⟨Ao23, co23, eo23⟩ := Kd.S_slice HO366.out; subst eo23) | ((with_reducible refine gate_callee (f := 21) rfl ?_); refine goesL_ (some 16) rfl rfl Try.func21 (by kernel_rfl) rfl #[.agg #[.int .i64 t359, .int .i64 t360, .slice Ao22 t361.length co22, .slice Ao23 t364.length co23]] rfl (by (try simp only [List.map_toArray, List.map_cons, List.map_nil]); first | done | rfl | (simp only [List.length_drop, List.length_take]; rfl)) ?_; (with_reducible refine (impl_LoopLength.calls k t359 t360 _ _ t361 _ _ t364 t368 _ ?side1 ?side2 ?side3 ?side4 A4.out).mono ?_); (case side1 => refine (Kd.Q_reads' (e := 45) (base := w.heap.size) (ok := fun k_ => some k_ ≠ (.slice Ao23 t364.length co23 : Value).ownBlock) (n := t361.length) (c := co22) ?_).2.2; exact (by (with_reducible repeat (first | apply Kd.Q_alloc | apply Kd.Q_drewN | apply Kd.Q_drew)); exact (Kd.Q_mono (Kd.Q_far (p := ⟨gb367, 3, none⟩) (Kd.Q_far (p := ⟨gb367, 2, none⟩) (Kd.Q_far (p := ⟨gb367, 1, none⟩) (Kd.Q_far (p := ⟨gb367, 0, none⟩) (Kd.Q_types HO363.out BK367.out (by decide)) (fun _ hk => hk.2) (.int .i64 t359)) (fun _ hk => hk.2) (.int .i64 t360)) (fun _ hk => hk.2) (.slice Ao22 t361.length co22)) (fun _ hk => hk.2) (.slice Ao23 t364.length co23)) (fun _ h_ => h_.1)))); (case side2 => exact (Kd.Q_reads' HO363.out).2.1); (case side3 => refine (Kd.S_reads' (e := 45) (base := w.heap.size) (ok := fun k_ => some k_ ≠ (.slice Ao22 t361.length co22 : Value).ownBlock) (n := t364.length) (c := co23) ?_).2.2; exact (by (with_reducible repeat (first | apply Kd.S_alloc | apply Kd.S_drewN | apply Kd.S_drew)); exact (Kd.S_mono (Kd.S_far (p := ⟨gb367, 3, none⟩) (Kd.S_far (p := ⟨gb367, 2, none⟩) (Kd.S_far (p := ⟨gb367, 1, none⟩) (Kd.S_far (p := ⟨gb367, 0, none⟩) (Kd.S_types HO366.out BK367.out (by decide)) (fun _ hk => hk.2) (.int .i64 t359)) (fun _ hk => hk.2) (.int .i64 t360)) (fun _ hk => hk.2) (.slice Ao22 t361.length co22)) (fun _ hk => hk.2) (.slice Ao23 t364.length co23)) (fun _ h_ => h_.1)))); (case side4 => exact (Kd.S_reads' HO366.out).2.1); rintro e w24 ⟨rfl, hb⟩; refine ⟨_, rfl, ?_⟩; have n0_ := Aside0.mk (Kd.Q_below (by (with_reducible repeat (first | apply Kd.Q_alloc | apply Kd.Q_drewN | apply Kd.Q_drew)); exact (Kd.Q_mono (Kd.Q_far (p := ⟨gb367, 3, none⟩) (Kd.Q_far (p := ⟨gb367, 2, none⟩) (Kd.Q_far (p := ⟨gb367, 1, none⟩) (Kd.Q_far (p := ⟨gb367, 0, none⟩) (Kd.Q_types HO363.out BK367.out (by decide)) (fun _ hk => hk.2) (.int .i64 t359)) (fun _ hk => hk.2) (.int .i64 t360)) (fun _ hk => hk.2) (.slice Ao22 t361.length co22)) (fun _ hk => hk.2) (.slice Ao23 t364.length co23)) (fun _ h_ => h_.1))) hb); have n1_ := Aside0.mk (Kd.S_below (by (with_reducible repeat (first | apply Kd.S_alloc | apply Kd.S_drewN | apply Kd.S_drew)); exact (Kd.S_mono (Kd.S_far (p := ⟨gb367, 3, none⟩) (Kd.S_far (p := ⟨gb367, 2, none⟩) (Kd.S_far (p := ⟨gb367, 1, none⟩) (Kd.S_far (p := ⟨gb367, 0, none⟩) (Kd.S_types HO366.out BK367.out (by decide)) (fun _ hk => hk.2) (.int .i64 t359)) (fun _ hk => hk.2) (.int .i64 t360)) (fun _ hk => hk.2) (.slice Ao22 t361.length co22)) (fun _ hk => hk.2) (.slice Ao23 t364.length co23)) (fun _ h_ => h_.1))) hb); have n2_ := Aside0.mk (blk_below (g := gb367) (o := .cells #[.int .i64 t359, .int .i64 t360, .slice Ao22 t361.length co22, .slice Ao23 t364.length co23] 27 (0, 0)) (by (with_reducible repeat (first | refine blk_drewN ?_ _ | refine blk_drew ?_ | refine blk_alloc ?_ _)); refine blk_put (cs := #[.int .i64 t359, .int .i64 t360, .slice Ao22 t361.length co22, .slice none 0 0]) ?_ 3 _ rfl; (with_reducible repeat (first | refine blk_drewN ?_ _ | refine blk_drew ?_ | refine blk_alloc ?_ _)); refine blk_put (cs := #[.int .i64 t359, .int .i64 t360, .slice none 0 0, .slice none 0 0]) ?_ 2 _ rfl; (with_reducible repeat (first | refine blk_drewN ?_ _ | refine blk_drew ?_ | refine blk_alloc ?_ _)); refine blk_put (cs := #[.int .i64 t359, .int .i64 0, .slice none 0 0, .slice none 0 0]) ?_ 1 _ rfl; (with_reducible repeat (first | refine blk_drewN ?_ _ | refine blk_drew ?_ | refine blk_alloc ?_ _)); refine blk_put (cs := #[.int .i64 0, .int .i64 0, .slice none 0 0, .slice none 0 0]) ?_ 0 _ rfl; (with_reducible repeat (first | refine blk_drewN ?_ _ | refine blk_drew ?_ | refine blk_alloc ?_ _)); exact BK367.out) hb); have n3_ := Aside0.mk (below_step (by repeat (first | (with_reducible first | exact HB.out | apply below_alloc | apply pw_below_drewN | apply below_drew1 | refine below_set ?_ GE367.out) | exact HB.out)) hb); clear HO363; clear HO366; clear BK367; clear HB; have HO363 := n0_; have HO366 := n1_; have BK367 := n2_; have HB := n3_; clear n0_ n1_ n2_ n3_; (try clear hb); (try clear hb2); (try clear hk); (try clear hi); have hcz25_0 : w24.cell? ⟨gb367, 0, none⟩ = some (.int .i64 t359) := (blk_cell BK367.out 0).trans rfl; have hcz25_1 : w24.cell? ⟨gb367, 1, none⟩ = some (.int .i64 t360) := (blk_cell BK367.out 1).trans rfl; have hcz25_2 : w24.cell? ⟨gb367, 2, none⟩ = some (.slice Ao22 t361.length co22) := (blk_cell BK367.out 2).trans rfl; have hcz25_3 : w24.cell? ⟨gb367, 3, none⟩ = some (.slice Ao23 t364.length co23) := (blk_cell BK367.out 3).trans rfl; have hfz25_0 := blk_frozen BK367.out 0; have hfz25_1 := blk_frozen BK367.out 1; have hfz25_2 := blk_frozen BK367.out 2; have hfz25_3 := blk_frozen BK367.out 3) | ((with_reducible refine gate_callee (f := 19) rfl ?_); refine goesL_ (some 19) rfl rfl Try.func19 (by kernel_rfl) rfl #[.agg #[.int .i64 t359, .int .i64 t360, .slice Ao22 t361.length co22, .slice Ao23 t364.length co23]] rfl (by (try simp only [List.map_toArray, List.map_cons, List.map_nil]); first | done | rfl | (simp only [List.length_drop, List.length_take]; rfl)) ?_; (with_reducible refine (spec_LoopLength.calls k t359 t360 _ _ t361 _ _ t364 t369 _ ?side1 ?side2 ?side3 ?side4 A5.out).mono ?_); (case side1 => repeat (first | exact (Kd.Q_reads' HO363.out).2.2 | (with_reducible refine Kd.C_alloc ?_ _) | (with_reducible refine Kd.C_drewN ?_ _) | (with_reducible refine Kd.C_drew ?_))); (case side2 => exact (Kd.Q_reads' HO363.out).2.1); (case side3 => repeat (first | exact (Kd.S_reads' HO366.out).2.2 | (with_reducible refine Kd.C_alloc ?_ _) | (with_reducible refine Kd.C_drewN ?_ _) | (with_reducible refine Kd.C_drew ?_))); (case side4 => exact (Kd.S_reads' HO366.out).2.1); rintro e w26 ⟨rfl, hb⟩; refine ⟨_, rfl, ?_⟩; have n0_ := Aside0.mk (Kd.Q_below (by (with_reducible repeat (first | apply Kd.Q_alloc | apply Kd.Q_drewN | apply Kd.Q_drew)); exact HO363.out) hb); have n1_ := Aside0.mk (Kd.S_below (by (with_reducible repeat (first | apply Kd.S_alloc | apply Kd.S_drewN | apply Kd.S_drew)); exact HO366.out) hb); have n2_ := Aside0.mk (blk_below (g := gb367) (o := .cells #[.int .i64 t359, .int .i64 t360, .slice Ao22 t361.length co22, .slice Ao23 t364.length co23] 27 (0, 0)) (by (with_reducible repeat (first | refine blk_drewN ?_ _ | refine blk_drew ?_ | refine blk_alloc ?_ _)); exact BK367.out) hb); have n3_ := Aside0.mk (below_step (by repeat (first | (with_reducible first | exact HB.out | apply below_alloc | apply pw_below_drewN | apply below_drew1 | refine below_set ?_ GE367.out) | exact HB.out)) hb); clear HO363; clear HO366; clear BK367; clear HB; have HO363 := n0_; have HO366 := n1_; have BK367 := n2_; have HB := n3_; clear n0_ n1_ n2_ n3_; (try clear hb); (try clear hb2); (try clear hk); (try clear hi)))
          go_ret
          exact ⟨by first | rfl | (simp [errW_none, errW_some] <;> rfl) | (simp [*, errW_none, errW_some] <;> rfl), by repeat (first | (with_reducible first | exact HB.out | apply below_alloc | apply pw_below_drewN | apply below_drew1 | refine below_set ?_ GE367.out) | exact HB.out)⟩
      · rw [if_neg c7] at H
        have c7b0 : decide (t368 < 0) = false := decide_eq_false c7
        clear c7
        have H' := Aside0.mk H
        clear H
        go_enter Try.func7, Try.ntmps7
        go_wp2_with (first | ((with_reducible refine gate_callee (f := 37) rfl ?_); refine goesL_ (some 14) rfl rfl Try.func37 (by kernel_rfl) rfl #[.slice A0 l0.length c0] rfl (by (try simp only [List.map_toArray, List.map_cons, List.map_nil]); first | done | rfl | (simp only [List.length_drop, List.length_take]; rfl)) ?_; (with_reducible refine (spec_DrawLoopLength.calls k _ _ l0 t359 t360 t361 t364 _ ?side1 ?side2 A3.out).mono ?_); (case side1 => repeat (first | exact HR0.out | (with_reducible refine Kd.C_alloc ?_ _) | (with_reducible refine Kd.C_drewN ?_ _) | (with_reducible refine Kd.C_drew ?_))); (case side2 => exact HC0.out); rintro e w27 ⟨v362, v365, rfl, ho0, ho1, hb⟩; refine ⟨_, rfl, ?_⟩; have n0_ := Aside0.mk (Kd.Q_lower ho0 (below_size (by repeat (first | (with_reducible first | exact HB.out | apply below_alloc | apply pw_below_drewN | apply below_drew1) | exact HB.out)))); have n1_ := Aside0.mk (Kd.S_lower ho1 (below_size (by repeat (first | (with_reducible first | exact HB.out | apply below_alloc | apply pw_below_drewN | apply below_drew1) | exact HB.out)))); have n2_ := Aside0.mk (below_step (by repeat (first | (with_reducible first | exact HB.out | apply below_alloc | apply pw_below_drewN | apply below_drew1) | exact HB.out)) hb); clear HB; have HO363 := n0_; have HO366 := n1_; have HB := n2_; clear n0_ n1_ n2_; (try clear hb); (try clear hb2); (try clear hk); (try clear hi); (try clear ho0); (try clear ho1)) | ((with_reducible refine gate_dst (N := 3) rfl ?_); refine box_event ?hg (N := 3) ?hd (cs := #[.int .i64 0, .int .i64 0, .slice none 0 0, .slice none 0 0]) (t := 27) ?hr ?_; (case hd => rfl); (case hg => rfl); (case hr => first | (go_simp; done) | (go_simp; rfl)); intro gb367 hg w28 hbox hb; have n0_ := Aside0.mk (Kd.Q_below (by (with_reducible repeat (first | apply Kd.Q_alloc | apply Kd.Q_drewN | apply Kd.Q_drew)); exact HO363.out) hb); have n1_ := Aside0.mk (Kd.S_below (by (with_reducible repeat (first | apply Kd.S_alloc | apply Kd.S_drewN | apply Kd.S_drew)); exact HO366.out) hb); have n2_ := Aside0.mk (below_step (by repeat (first | (with_reducible first | exact HB.out | apply below_alloc | apply pw_below_drewN | apply below_drew1) | exact HB.out)) hb); have n3_ := Aside0.mk (hbox); have n4_ := Aside0.mk ((by rw [hg]; exact (below_size (by repeat (first | (with_reducible first | exact HB.out | apply below_alloc | apply pw_below_drewN | apply below_drew1) | exact HB.out))) : w.heap.size ≤ gb367)); have n5_ := Aside0.mk ((by rw [hg]; exact (below_size (by repeat (first | (with_reducible first | exact HB.out | apply below_alloc | apply pw_below_drewN | apply below_drew1) | exact HB.out))) : w.heap.size ≤ gb367)); clear HO363; clear HO366; clear HB; have HO363 := n0_; have HO366 := n1_; have HB := n2_; have BK367 := n3_; have GW367 := n4_; have GE367 := n5_; clear n0_ n1_ n2_ n3_ n4_ n5_; clear hb hbox hg; have hcz29_0 : w28.cell? ⟨gb367, 0, none⟩ = some (.int .i64 0) := (blk_cell BK367.out 0).trans rfl; have hcz29_1 : w28.cell? ⟨gb367, 1, none⟩ = some (.int .i64 0) := (blk_cell BK367.out 1).trans rfl; have hcz29_2 : w28.cell? ⟨gb367, 2, none⟩ = some (.slice none 0 0) := (blk_cell BK367.out 2).trans rfl; have hcz29_3 : w28.cell? ⟨gb367, 3, none⟩ = some (.slice none 0 0) := (blk_cell BK367.out 3).trans rfl; have hfz29_0 := blk_frozen BK367.out 0; have hfz29_1 := blk_frozen BK367.out 1; have hfz29_2 := blk_frozen BK367.out 2; have hfz29_3 := blk_frozen BK367.out 3; obtain ⟨Ao30, co30, eo30, _⟩ := Kd.Q_slice HO363.out; subst eo30; obtain ⟨Ao31, co31, eo31⟩ := Kd.S_slice HO366.out; subst eo31) | ((with_reducible refine gate_callee (f := 21) rfl ?_); refine goesL_ (some 16) rfl rfl Try.func21 (by kernel_rfl) rfl #[.agg #[.int .i64 t359, .int .i64 t360, .slice Ao30 t361.length co30, .slice Ao31 t364.length co31]] rfl (by (try simp only [List.map_toArray, List.map_cons, List.map_nil]); first | done | rfl | (simp only [List.length_drop, List.length_take]; rfl)) ?_; (with_reducible refine (impl_LoopLength.calls k t359 t360 _ _ t361 _ _ t364 t368 _ ?side1 ?side2 ?side3 ?side4 A4.out).mono ?_); (case side1 => refine (Kd.Q_reads' (e := 45) (base := w.heap.size) (ok := fun k_ => some k_ ≠ (.slice Ao31 t364.length co31 : Value).ownBlock) (n := t361.length) (c := co30) ?_).2.2; exact (by (with_reducible repeat (first | apply Kd.Q_alloc | apply Kd.Q_drewN | apply Kd.Q_drew)); exact (Kd.Q_mono (Kd.Q_far (p := ⟨gb367, 3, none⟩) (Kd.Q_far (p := ⟨gb367, 2, none⟩) (Kd.Q_far (p := ⟨gb367, 1, none⟩) (Kd.Q_far (p := ⟨gb367, 0, none⟩) (Kd.Q_types HO363.out BK367.out (by decide)) (fun _ hk => hk.2) (.int .i64 t359)) (fun _ hk => hk.2) (.int .i64 t360)) (fun _ hk => hk.2) (.slice Ao30 t361.length co30)) (fun _ hk => hk.2) (.slice Ao31 t364.length co31)) (fun _ h_ => h_.1)))); (case side2 => exact (Kd.Q_reads' HO363.out).2.1); (case side3 => refine (Kd.S_reads' (e := 45) (base := w.heap.size) (ok := fun k_ => some k_ ≠ (.slice Ao30 t361.length co30 : Value).ownBlock) (n := t364.length) (c := co31) ?_).2.2; exact (by (with_reducible repeat (first | apply Kd.S_alloc | apply Kd.S_drewN | apply Kd.S_drew)); exact (Kd.S_mono (Kd.S_far (p := ⟨gb367, 3, none⟩) (Kd.S_far (p := ⟨gb367, 2, none⟩) (Kd.S_far (p := ⟨gb367, 1, none⟩) (Kd.S_far (p := ⟨gb367, 0, none⟩) (Kd.S_types HO366.out BK367.out (by decide)) (fun _ hk => hk.2) (.int .i64 t359)) (fun _ hk => hk.2) (.int .i64 t360)) (fun _ hk => hk.2) (.slice Ao30 t361.length co30)) (fun _ hk => hk.2) (.slice Ao31 t364.length co31)) (fun _ h_ => h_.1)))); (case side4 => exact (Kd.S_reads' HO366.out).2.1); rintro e w32 ⟨rfl, hb⟩; refine ⟨_, rfl, ?_⟩; have n0_ := Aside0.mk (Kd.Q_below (by (with_reducible repeat (first | apply Kd.Q_alloc | apply Kd.Q_drewN | apply Kd.Q_drew)); exact (Kd.Q_mono (Kd.Q_far (p := ⟨gb367, 3, none⟩) (Kd.Q_far (p := ⟨gb367, 2, none⟩) (Kd.Q_far (p := ⟨gb367, 1, none⟩) (Kd.Q_far (p := ⟨gb367, 0, none⟩) (Kd.Q_types HO363.out BK367.out (by decide)) (fun _ hk => hk.2) (.int .i64 t359)) (fun _ hk => hk.2) (.int .i64 t360)) (fun _ hk => hk.2) (.slice Ao30 t361.length co30)) (fun _ hk => hk.2) (.slice Ao31 t364.length co31)) (fun _ h_ => h_.1))) hb); have n1_ := Aside0.mk (Kd.S_below (by (with_reducible repeat (first | apply Kd.S_alloc | apply Kd.S_drewN | apply Kd.S_drew)); exact (Kd.S_mono (Kd.S_far (p := ⟨gb367, 3, none⟩) (Kd.S_far (p := ⟨gb367, 2, none⟩) (Kd.S_far (p := ⟨gb367, 1, none⟩) (Kd.S_far (p := ⟨gb367, 0, none⟩) (Kd.S_types HO366.out BK367.out (by decide)) (fun _ hk => hk.2) (.int .i64 t359)) (fun _ hk => hk.2) (.int .i64 t360)) (fun _ hk => hk.2) (.slice Ao30 t361.length co30)) (fun _ hk => hk.2) (.slice Ao31 t364.length co31)) (fun _ h_ => h_.1))) hb); have n2_ := Aside0.mk (blk_below (g := gb367) (o := .cells #[.int .i64 t359, .int .i64 t360, .slice Ao30 t361.length co30, .slice Ao31 t364.length co31] 27 (0, 0)) (by (with_reducible repeat (first | refine blk_drewN ?_ _ | refine blk_drew ?_ | refine blk_alloc ?_ _)); refine blk_put (cs := #[.int .i64 t359, .int .i64 t360, .slice Ao30 t361.length co30, .slice none 0 0]) ?_ 3 _ rfl; (with_reducible repeat (first | refine blk_drewN ?_ _ | refine blk_drew ?_ | refine blk_alloc ?_ _)); refine blk_put (cs := #[.int .i64 t359, .int .i64 t360, .slice none 0 0, .slice none 0 0]) ?_ 2 _ rfl; (with_reducible repeat (first | refine blk_drewN ?_ _ | refine blk_drew ?_ | refine blk_alloc ?_ _)); refine blk_put (cs := #[.int .i64 t359, .int .i64 0, .slice none 0 0, .slice none 0 0]) ?_ 1 _ rfl; (with_reducible repeat (first | refine blk_drewN ?_ _ | refine blk_drew ?_ | refine blk_alloc ?_ _)); refine blk_put (cs := #[.int .i64 0, .int .i64 0, .slice none 0 0, .slice none 0 0]) ?_ 0 _ rfl; (with_reducible repeat (first | refine blk_drewN ?_ _ | refine blk_drew ?_ | refine blk_alloc ?_ _)); exact BK367.out) hb); have n3_ := Aside0.mk (below_step (by repeat (first | (with_reducible first | exact HB.out | apply below_alloc | apply pw_below_drewN | apply below_drew1 | refine below_set ?_ GE367.out) | exact HB.out)) hb); clear HO363; clear HO366; clear BK367; clear HB; have HO363 := n0_; have HO366 := n1_; have BK367 := n2_; have HB := n3_; clear n0_ n1_ n2_ n3_; (try clear hb); (try clear hb2); (try clear hk); (try clear hi); have hcz33_0 : w32.cell? ⟨gb367, 0, none⟩ = some (.int .i64 t359) := (blk_cell BK367.out 0).trans rfl; have hcz33_1 : w32.cell? ⟨gb367, 1, none⟩ = some (.int .i64 t360) := (blk_cell BK367.out 1).trans rfl; have hcz33_2 : w32.cell? ⟨gb367, 2, none⟩ = some (.slice Ao30 t361.length co30) := (blk_cell BK367.out 2).trans rfl; have hcz33_3 : w32.cell? ⟨gb367, 3, none⟩ = some (.slice Ao31 t364.length co31) := (blk_cell BK367.out 3).trans rfl; have hfz33_0 := blk_frozen BK367.out 0; have hfz33_1 := blk_frozen BK367.out 1; have hfz33_2 := blk_frozen BK367.out 2; have hfz33_3 := blk_frozen BK367.out 3) | ((with_reducible refine gate_callee (f := 19) rfl ?_); refine goesL_ (some 19) rfl rfl Try.func19 (by kernel_rfl) rfl #[.agg #[.int .i64 t359, .int .i64 t360, .slice Ao30 t361.length co30, .slice Ao31 t364.length co31]] rfl (by (try simp only [List.map_toArray, List.map_cons, List.map_nil]); first | done | rfl | (simp only [List.length_drop, List.length_take]; rfl)) ?_; (with_reducible refine (spec_LoopLength.calls k t359 t360 _ _ t361 _ _ t364 t369 _ ?side1 ?side2 ?side3 ?side4 A5.out).mono ?_); (case side1 => repeat (first | exact (Kd.Q_reads' HO363.out).2.2 | (with_reducible refine Kd.C_alloc ?_ _) | (with_reducible refine Kd.C_drewN ?_ _) | (with_reducible refine Kd.C_drew ?_))); (case side2 => exact (Kd.Q_reads' HO363.out).2.1); (case side3 => repeat (first | exact (Kd.S_reads' HO366.out).2.2 | (with_reducible refine Kd.C_alloc ?_ _) | (with_reducible refine Kd.C_drewN ?_ _) | (with_reducible refine Kd.C_drew ?_))); (case side4 => exact (Kd.S_reads' HO366.out).2.1); rintro e w34 ⟨rfl, hb⟩; refine ⟨_, rfl, ?_⟩; have n0_ := Aside0.mk (Kd.Q_below (by (with_reducible repeat (first | apply Kd.Q_alloc | apply Kd.Q_drewN | apply Kd.Q_drew)); exact HO363.out) hb); have n1_ := Aside0.mk (Kd.S_below (by (with_reducible repeat (first | apply Kd.S_alloc | apply Kd.S_drewN | apply Kd.S_drew)); exact HO366.out) hb); have n2_ := Aside0.mk (blk_below (g := gb367) (o := .cells #[.int .i64 t359, .int .i64 t360, .slice Ao30 t361.length co30, .slice Ao31 t364.length co31] 27 (0, 0)) (by (with_reducible repeat (first | refine blk_drewN ?_ _ | refine blk_drew ?_ | refine blk_alloc ?_ _)); exact BK367.out) hb); have n3_ := Aside0.mk (below_step (by repeat (first | (with_reducible first | exact HB.out | apply below_alloc | apply pw_below_drewN | apply below_drew1 | refine below_set ?_ GE367.out) | exact HB.out)) hb); clear HO363; clear HO366; clear BK367; clear HB; have HO363 := n0_; have HO366 := n1_; have BK367 := n2_; have HB := n3_; clear n0_ n1_ n2_ n3_; (try clear hb); (try clear hb2); (try clear hk); (try clear hi)))
        go_loopg [5, 6] k (fun kq v5 v6 w' => ∃ (x5_1 : Int) (x6_1 : Int), v5 = .int .i64 x5_1 ∧ v6 = .int .i64 x6_1 ∧ Aside0 (laws_FnLoopLength.l0 kq t368 x5_1 x6_1 t359 t360 t361 t364 = some r) ∧ Aside0 (kq ≤ k) ∧ Aside0 (Kd.Q (Kd.slice 4 Kd.bool) 45 w' w.heap.size (fun k_ => some k_ ≠ ((.slice Ao31 t364.length co31) : Value).ownBlock) (.slice Ao30 t361.length co30) t361) ∧ Aside0 (Kd.S (Kd.slice 4 Kd.bool) 45 w' w.heap.size (fun k_ => some k_ ≠ ((.slice Ao30 t361.length co30) : Value).ownBlock) (.slice Ao31 t364.length co31) t364) ∧ Aside0 (w'.heap[gb367]? = some (.cells #[.int .i64 t359, .int .i64 t360, (.slice Ao30 t361.length co30), (.slice Ao31 t364.length co31)] 27 (0, 0))) ∧ Aside0 (Below w.heap.size w w'))
        case atStart => exact ⟨(0), (0), (by first | rfl | (simp; done) | (simp [*]; done)), (by first | rfl | (simp; done) | (simp [*]; done)), H', ⟨Nat.le_refl _⟩, ⟨by (with_reducible repeat (first | apply Kd.Q_alloc | apply Kd.Q_drewN | apply Kd.Q_drew)); exact HO363.out⟩, ⟨by (with_reducible repeat (first | apply Kd.S_alloc | apply Kd.S_drewN | apply Kd.S_drew)); exact HO366.out⟩, ⟨by (with_reducible repeat (first | refine blk_drewN ?_ _ | refine blk_drew ?_ | refine blk_alloc ?_ _)); exact BK367.out⟩, ⟨by repeat (first | (with_reducible first | exact HB.out | apply below_alloc | apply pw_below_drewN | apply below_drew1 | refine below_set ?_ GE367.out) | exact HB.out)⟩⟩
        case round =>
          clear H'
          try clear c1
          try clear c2
          try clear c2b0
          try clear c2b1
          try clear p2
          try clear c3
          try clear c6
          try clear c6b0
          try clear c6b1
          try clear c7
          try clear c7b0
          try clear c8
          try clear c8b0
          try clear c8b1
          try clear c19
          try clear c21
          try clear hcz12_0
          try clear hcz12_1
          try clear hcz12_2
          try clear hcz12_3
          try clear hcz16_0
          try clear hcz16_1
          try clear hcz16_2
          try clear hcz16_3
          try clear hcz21_0
          try clear hcz21_1
          try clear hcz21_2
          try clear hcz21_3
          try clear hcz25_0
          try clear hcz25_1
          try clear hcz25_2
          try clear hcz25_3
          try clear hcz29_0
          try clear hcz29_1
          try clear hcz29_2
          try clear hcz29_3
          try clear hcz33_0
          try clear hcz33_1
          try clear hcz33_2
          try clear hcz33_3
          try clear hfz12_0
          try clear hfz12_1
          try clear hfz12_2
          try clear hfz12_3
          try clear hfz16_0
          try clear hfz16_1
          try clear hfz16_2
          try clear hfz16_3
          try clear hfz21_0
          try clear hfz21_1
          try clear hfz21_2
          try clear hfz21_3
          try clear hfz25_0
          try clear hfz25_1
          try clear hfz25_2
          try clear hfz25_3
          try clear hfz29_0
          try clear hfz29_1
          try clear hfz29_2
          try clear hfz29_3
          try clear hfz33_0
          try clear hfz33_1
          try clear hfz33_2
          try clear hfz33_3
          obtain ⟨x5_1, x6_1, rfl, rfl, HA, HK1, HO_368002, HO_368003, BK367, HB⟩ := hrel
          cases gk with
          | zero => exact absurd HA.out (by simp [laws_FnLoopLength.l0])
          | succ k1 =>
            have H := HA.out
            clear HA
            simp only [laws_FnLoopLength.l0] at H
            by_cases c35 : x6_1 < (t361.length : Int)
            · rw [if_pos c35] at H
              have c35b0 : decide (x6_1 < (t361.length : Int)) = true := decide_eq_true c35
              clear c35
              have H' := Aside0.mk H
              clear H
              have hcz36_0 : wr.cell? ⟨gb367, 0, none⟩ = some (.int .i64 t359) := (blk_cell BK367.out 0).trans rfl
              have hcz36_1 : wr.cell? ⟨gb367, 1, none⟩ = some (.int .i64 t360) := (blk_cell BK367.out 1).trans rfl
              have hcz36_2 : wr.cell? ⟨gb367, 2, none⟩ = some (.slice Ao30 t361.length co30) := (blk_cell BK367.out 2).trans rfl
              have hcz36_3 : wr.cell? ⟨gb367, 3, none⟩ = some (.slice Ao31 t364.length co31) := (blk_cell BK367.out 3).trans rfl
              have hfz36_0 := blk_frozen BK367.out 0
              have hfz36_1 := blk_frozen BK367.out 1
              have hfz36_2 := blk_frozen BK367.out 2
              have hfz36_3 := blk_frozen BK367.out 3
              go_wp2
              go_loopg [5, 7] k1 (fun kq v5 v7 w' => ∃ (x5_2 : Int) (x7_2 : Int), v5 = .int .i64 x5_2 ∧ v7 = .int .i64 x7_2 ∧ Aside0 (laws_FnLoopLength.l1 kq t368 x5_2 x6_1 x7_2 t359 t360 t361 t364 = some r) ∧ Aside0 (kq ≤ k1) ∧ Aside0 (Kd.Q (Kd.slice 4 Kd.bool) 45 w' w.heap.size (fun k_ => some k_ ≠ ((.slice Ao31 t364.length co31) : Value).ownBlock) (.slice Ao30 t361.length co30) t361) ∧ Aside0 (Kd.S (Kd.slice 4 Kd.bool) 45 w' w.heap.size (fun k_ => some k_ ≠ ((.slice Ao30 t361.length co30) : Value).ownBlock) (.slice Ao31 t364.length co31) t364) ∧ Aside0 (w'.heap[gb367]? = some (.cells #[.int .i64 t359, .int .i64 t360, (.slice Ao30 t361.length co30), (.slice Ao31 t364.length co31)] 27 (0, 0))) ∧ Aside0 (Below w.heap.size w w'))
              case atStart => exact ⟨(x5_1), (0), (by first | rfl | (simp; done) | (simp [*]; done)), (by first | rfl | (simp; done) | (simp [*]; done)), H', ⟨Nat.le_refl _⟩, ⟨by (with_reducible repeat (first | apply Kd.Q_alloc | apply Kd.Q_drewN | apply Kd.Q_drew)); exact HO_368002.out⟩, ⟨by (with_reducible repeat (first | apply Kd.S_alloc | apply Kd.S_drewN | apply Kd.S_drew)); exact HO_368003.out⟩, ⟨by (with_reducible repeat (first | refine blk_drewN ?_ _ | refine blk_drew ?_ | refine blk_alloc ?_ _)); exact BK367.out⟩, ⟨by repeat (first | (with_reducible first | exact HB.out | apply below_alloc | apply pw_below_drewN | apply below_drew1 | refine below_set ?_ GE367.out) | exact HB.out)⟩⟩
              case round =>
                clear H'
                try clear c1
                try clear c2
                try clear c2b0
                try clear c2b1
                try clear p2
                try clear c3
                try clear c6
                try clear c6b0
                try clear c6b1
                try clear c7
                try clear c7b0
                try clear c8
                try clear c8b0
                try clear c8b1
                try clear c19
                try clear c21
                try clear c35
                try clear c35b0
                try clear hcz12_0
                try clear hcz12_1
                try clear hcz12_2
                try clear hcz12_3
                try clear hcz16_0
                try clear hcz16_1
                try clear hcz16_2
                try clear hcz16_3
                try clear hcz21_0
                try clear hcz21_1
                try clear hcz21_2
                try clear hcz21_3
                try clear hcz25_0
                try clear hcz25_1
                try clear hcz25_2
                try clear hcz25_3
                try clear hcz29_0
                try clear hcz29_1
                try clear hcz29_2
                try clear hcz29_3
                try clear hcz33_0
                try clear hcz33_1
                try clear hcz33_2
                try clear hcz33_3
                try clear hcz36_0
                try clear hcz36_1
                try clear hcz36_2
                try clear hcz36_3
                try clear hfz12_0
                try clear hfz12_1
                try clear hfz12_2
                try clear hfz12_3
                try clear hfz16_0
                try clear hfz16_1
                try clear hfz16_2
                try clear hfz16_3
                try clear hfz21_0
                try clear hfz21_1
                try clear hfz21_2
                try clear hfz21_3
                try clear hfz25_0
                try clear hfz25_1
                try clear hfz25_2
                try clear hfz25_3
                try clear hfz29_0
                try clear hfz29_1
                try clear hfz29_2
                try clear hfz29_3
                try clear hfz33_0
                try clear hfz33_1
                try clear hfz33_2
                try clear hfz33_3
                try clear hfz36_0
                try clear hfz36_1
                try clear hfz36_2
                try clear hfz36_3
                try clear p2
                obtain ⟨x5_2, x7_2, rfl, rfl, HA, HK2, HO_368002, HO_368003, BK367, HB⟩ := hrel
                cases gk with
                | zero => exact absurd HA.out (by simp [laws_FnLoopLength.l1])
                | succ k2 =>
                  have H := HA.out
                  clear HA
                  simp only [laws_FnLoopLength.l1] at H
                  by_cases c37 : 0 ≤ x6_1
                  · rw [if_pos c37] at H
                    have c37b0 : decide (0 ≤ x6_1) = true := decide_eq_true c37
                    clear c37
                    by_cases c38 : x6_1 < (t361.length : Int)
                    · rw [if_pos c38] at H
                      have c38b0 : decide (x6_1 < (t361.length : Int)) = true := decide_eq_true c38
                      clear c38
                      by_cases c39 : x7_2 < ((rd_L1 t361 x6_1).length : Int)
                      · rw [if_pos c39] at H
                        have c39b0 : decide (x7_2 < ((rd_L1 t361 x6_1).length : Int)) = true := decide_eq_true c39
                        clear c39
                        by_cases c40 : 0 ≤ x7_2
                        · rw [if_pos c40] at H
                          have c40b0 : decide (0 ≤ x7_2) = true := decide_eq_true c40
                          clear c40
                          obtain ⟨bq41, hbq41⟩ : ∃ b_ : Bool, b_ = (rdOf false (rd_L1 t361 x6_1) x7_2) := ⟨_, rfl⟩
                          replace H : (if bq41 = true then (laws_FnLoopLength.l1 k2 t368 (wrap64 (x5_2 + 1)) x6_1 (wrap64 (x7_2 + 1)) t359 t360 t361 t364) else (laws_FnLoopLength.l1 k2 t368 x5_2 x6_1 (wrap64 (x7_2 + 1)) t359 t360 t361 t364)) = some r := by rw [← hbq41] at H; exact H
                          have Nbq41 := Aside0.mk hbq41
                          clear hbq41
                          by_cases c42 : bq41 = true
                          · subst c42
                            have H1 : (laws_FnLoopLength.l1 k2 t368 (wrap64 (x5_2 + 1)) x6_1 (wrap64 (x7_2 + 1)) t359 t360 t361 t364) = some r := by rw [if_pos rfl] at H; exact H
                            clear H
                            have H := H1
                            clear H1
                            have H' := Aside0.mk H
                            clear H
                            have hcz43_0 : wr.cell? ⟨gb367, 0, none⟩ = some (.int .i64 t359) := (blk_cell BK367.out 0).trans rfl
                            have hcz43_1 : wr.cell? ⟨gb367, 1, none⟩ = some (.int .i64 t360) := (blk_cell BK367.out 1).trans rfl
                            have hcz43_2 : wr.cell? ⟨gb367, 2, none⟩ = some (.slice Ao30 t361.length co30) := (blk_cell BK367.out 2).trans rfl
                            have hcz43_3 : wr.cell? ⟨gb367, 3, none⟩ = some (.slice Ao31 t364.length co31) := (blk_cell BK367.out 3).trans rfl
                            have hfz43_0 := blk_frozen BK367.out 0
                            have hfz43_1 := blk_frozen BK367.out 1
                            have hfz43_2 := blk_frozen BK367.out 2
                            have hfz43_3 := blk_frozen BK367.out 3
                            have p371 : 0 ≤ (x6_1 : Int) := of_decide_eq_true (by first | (with_reducible assumption) | assumption)
                            have q371 : x6_1 < (t361.length : Int) := of_decide_eq_true (by first | (with_reducible assumption) | assumption)
                            obtain ⟨ad371, A371_0, c371_0, e371, hx371_0, hl371_0, hi371_0⟩ := at_L1 (Kd.Q_reads' HO_368002.out).2.2 x6_1 p371 q371
                            cases e371
                            have HR371_0 := Aside0.mk hi371_0
                            have HC371_0 := Aside0.mk hl371_0
                            clear hi371_0 hl371_0
                            replace p371 := eq_true p371
                            replace q371 := eq_true q371
                            have p372 : 0 ≤ (x6_1 : Int) := of_decide_eq_true (by first | (with_reducible assumption) | assumption)
                            have q372 : x6_1 < (t361.length : Int) := of_decide_eq_true (by first | (with_reducible assumption) | assumption)
                            obtain ⟨ad372, A372_0, c372_0, e372, hx372_0, hl372_0, hi372_0⟩ := at_L1 (Kd.Q_reads' HO_368002.out).2.2 x6_1 p372 q372
                            obtain rfl : ad371 = ad372 := (by injection e372)
                            have HR372_0 := Aside0.mk hi372_0
                            have HC372_0 := Aside0.mk hl372_0
                            clear hi372_0 hl372_0
                            replace p372 := eq_true p372
                            replace q372 := eq_true q372
                            have ea_ := Option.some.inj (hx371_0.symm.trans hx372_0)
                            injection ea_ with ea_ en_ ec_
                            subst ea_
                            subst ec_
                            clear en_
                            have p373 : 0 ≤ (x7_2 : Int) := of_decide_eq_true (by first | (with_reducible assumption) | assumption)
                            have q373 : x7_2 < ((rd_L1 t361 x6_1).length : Int) := of_decide_eq_true (by first | (with_reducible assumption) | assumption)
                            obtain ⟨ad373, e373, hx373_0⟩ := Kd.at_bool (by repeat (first | (with_reducible exact HR372_0.out) | (with_reducible refine Kd.C_alloc ?_ _) | (with_reducible refine Kd.C_drewN ?_ _) | (with_reducible refine Kd.C_drew ?_) | exact HR372_0.out)) x7_2 p373 q373
                            (try rw [← Nbq41.out] at hx373_0)
                            cases e373
                            replace p373 := eq_true p373
                            replace q373 := eq_true q373
                            go_wp2
                            go_roundg k2
                            case measure => have := HK1.out; have := HK2.out; omega
                            case rel => exact ⟨(wrap64 (x5_2 + 1)), (wrap64 (x7_2 + 1)), (by first | rfl | (simp; done) | (simp [*]; done)), (by first | rfl | (simp; done) | (simp [*]; done)), H', ⟨by have := HK1.out; have := HK2.out; omega⟩, ⟨by (with_reducible repeat (first | apply Kd.Q_alloc | apply Kd.Q_drewN | apply Kd.Q_drew)); exact HO_368002.out⟩, ⟨by (with_reducible repeat (first | apply Kd.S_alloc | apply Kd.S_drewN | apply Kd.S_drew)); exact HO_368003.out⟩, ⟨by (with_reducible repeat (first | refine blk_drewN ?_ _ | refine blk_drew ?_ | refine blk_alloc ?_ _)); exact BK367.out⟩, ⟨by repeat (first | (with_reducible first | exact HB.out | apply below_alloc | apply pw_below_drewN | apply below_drew1 | refine below_set ?_ GE367.out) | exact HB.out)⟩⟩
                          · replace c42 := Bool.eq_false_iff.mpr c42
                            subst c42
                            have H1 : (laws_FnLoopLength.l1 k2 t368 x5_2 x6_1 (wrap64 (x7_2 + 1)) t359 t360 t361 t364) = some r := by rw [if_neg (show ¬ (false = true) by decide)] at H; exact H
                            clear H
                            have H := H1
                            clear H1
                            have H' := Aside0.mk H
                            clear H
                            have hcz44_0 : wr.cell? ⟨gb367, 0, none⟩ = some (.int .i64 t359) := (blk_cell BK367.out 0).trans rfl
                            have hcz44_1 : wr.cell? ⟨gb367, 1, none⟩ = some (.int .i64 t360) := (blk_cell BK367.out 1).trans rfl
                            have hcz44_2 : wr.cell? ⟨gb367, 2, none⟩ = some (.slice Ao30 t361.length co30) := (blk_cell BK367.out 2).trans rfl
                            have hcz44_3 : wr.cell? ⟨gb367, 3, none⟩ = some (.slice Ao31 t364.length co31) := (blk_cell BK367.out 3).trans rfl
                            have hfz44_0 := blk_frozen BK367.out 0
                            have hfz44_1 := blk_frozen BK367.out 1
                            have hfz44_2 := blk_frozen BK367.out 2
                            have hfz44_3 := blk_frozen BK367.out 3
                            have p371 : 0 ≤ (x6_1 : Int) := of_decide_eq_true (by first | (with_reducible assumption) | assumption)
                            have q371 : x6_1 < (t361.length : Int) := of_decide_eq_true (by first | (with_reducible assumption) | assumption)
                            obtain ⟨ad371, A371_0, c371_0, e371, hx371_0, hl371_0, hi371_0⟩ := at_L1 (Kd.Q_reads' HO_368002.out).2.2 x6_1 p371 q371
                            cases e371
                            have HR371_0 := Aside0.mk hi371_0
                            have HC371_0 := Aside0.mk hl371_0
                            clear hi371_0 hl371_0
                            replace p371 := eq_true p371
                            replace q371 := eq_true q371
                            have p372 : 0 ≤ (x6_1 : Int) := of_decide_eq_true (by first | (with_reducible assumption) | assumption)
                            have q372 : x6_1 < (t361.length : Int) := of_decide_eq_true (by first | (with_reducible assumption) | assumption)
                            obtain ⟨ad372, A372_0, c372_0, e372, hx372_0, hl372_0, hi372_0⟩ := at_L1 (Kd.Q_reads' HO_368002.out).2.2 x6_1 p372 q372
                            obtain rfl : ad371 = ad372 := (by injection e372)
                            have HR372_0 := Aside0.mk hi372_0
                            have HC372_0 := Aside0.mk hl372_0
                            clear hi372_0 hl372_0
                            replace p372 := eq_true p372
                            replace q372 := eq_true q372
                            have ea_ := Option.some.inj (hx371_0.symm.trans hx372_0)
                            injection ea_ with ea_ en_ ec_
                            subst ea_
                            subst ec_
                            clear en_
                            have p373 : 0 ≤ (x7_2 : Int) := of_decide_eq_true (by first | (with_reducible assumption) | assumption)
                            have q373 : x7_2 < ((rd_L1 t361 x6_1).length : Int) := of_decide_eq_true (by first | (with_reducible assumption) | assumption)
                            obtain ⟨ad373, e373, hx373_0⟩ := Kd.at_bool (by repeat (first | (with_reducible exact HR372_0.out) | (with_reducible refine Kd.C_alloc ?_ _) | (with_reducible refine Kd.C_drewN ?_ _) | (with_reducible refine Kd.C_drew ?_) | exact HR372_0.out)) x7_2 p373 q373
                            (try rw [← Nbq41.out] at hx373_0)
                            cases e373
                            replace p373 := eq_true p373
                            replace q373 := eq_true q373
                            go_wp2
                            go_roundg k2
                            case measure => have := HK1.out; have := HK2.out; omega
                            case rel => exact ⟨(x5_2), (wrap64 (x7_2 + 1)), (by first | rfl | (simp; done) | (simp [*]; done)), (by first | rfl | (simp; done) | (simp [*]; done)), H', ⟨by have := HK1.out; have := HK2.out; omega⟩, ⟨by (with_reducible repeat (first | apply Kd.Q_alloc | apply Kd.Q_drewN | apply Kd.Q_drew)); exact HO_368002.out⟩, ⟨by (with_reducible repeat (first | apply Kd.S_alloc | apply Kd.S_drewN | apply Kd.S_drew)); exact HO_368003.out⟩, ⟨by (with_reducible repeat (first | refine blk_drewN ?_ _ | refine blk_drew ?_ | refine blk_alloc ?_ _)); exact BK367.out⟩, ⟨by repeat (first | (with_reducible first | exact HB.out | apply below_alloc | apply pw_below_drewN | apply below_drew1 | refine below_set ?_ GE367.out) | exact HB.out)⟩⟩
                        · rw [if_neg c40] at H
                          exact absurd H (by simp)
                      · rw [if_neg c39] at H
                        have c39b0 : decide (x7_2 < ((rd_L1 t361 x6_1).length : Int)) = false := decide_eq_false c39
                        clear c39
                        have H' := Aside0.mk H
                        clear H
                        have hcz45_0 : wr.cell? ⟨gb367, 0, none⟩ = some (.int .i64 t359) := (blk_cell BK367.out 0).trans rfl
                        have hcz45_1 : wr.cell? ⟨gb367, 1, none⟩ = some (.int .i64 t360) := (blk_cell BK367.out 1).trans rfl
                        have hcz45_2 : wr.cell? ⟨gb367, 2, none⟩ = some (.slice Ao30 t361.length co30) := (blk_cell BK367.out 2).trans rfl
                        have hcz45_3 : wr.cell? ⟨gb367, 3, none⟩ = some (.slice Ao31 t364.length co31) := (blk_cell BK367.out 3).trans rfl
                        have hfz45_0 := blk_frozen BK367.out 0
                        have hfz45_1 := blk_frozen BK367.out 1
                        have hfz45_2 := blk_frozen BK367.out 2
                        have hfz45_3 := blk_frozen BK367.out 3
                        have p371 : 0 ≤ (x6_1 : Int) := of_decide_eq_true (by first | (with_reducible assumption) | assumption)
                        have q371 : x6_1 < (t361.length : Int) := of_decide_eq_true (by first | (with_reducible assumption) | assumption)
                        obtain ⟨ad371, A371_0, c371_0, e371, hx371_0, hl371_0, hi371_0⟩ := at_L1 (Kd.Q_reads' HO_368002.out).2.2 x6_1 p371 q371
                        cases e371
                        have HR371_0 := Aside0.mk hi371_0
                        have HC371_0 := Aside0.mk hl371_0
                        clear hi371_0 hl371_0
                        replace p371 := eq_true p371
                        replace q371 := eq_true q371
                        go_wp2
                        go_roundg k2
                        case measure => have := HK1.out; have := HK2.out; omega
                        case rel => exact ⟨(x5_2), (wrap64 (x6_1 + 1)), (by first | rfl | (simp; done) | (simp [*]; done)), (by first | rfl | (simp; done) | (simp [*]; done)), H', ⟨by have := HK1.out; have := HK2.out; omega⟩, ⟨by (with_reducible repeat (first | apply Kd.Q_alloc | apply Kd.Q_drewN | apply Kd.Q_drew)); exact HO_368002.out⟩, ⟨by (with_reducible repeat (first | apply Kd.S_alloc | apply Kd.S_drewN | apply Kd.S_drew)); exact HO_368003.out⟩, ⟨by (with_reducible repeat (first | refine blk_drewN ?_ _ | refine blk_drew ?_ | refine blk_alloc ?_ _)); exact BK367.out⟩, ⟨by repeat (first | (with_reducible first | exact HB.out | apply below_alloc | apply pw_below_drewN | apply below_drew1 | refine below_set ?_ GE367.out) | exact HB.out)⟩⟩
                    · rw [if_neg c38] at H
                      exact absurd H (by simp)
                  · rw [if_neg c37] at H
                    exact absurd H (by simp)
            · rw [if_neg c35] at H
              have c35b0 : decide (x6_1 < (t361.length : Int)) = false := decide_eq_false c35
              clear c35
              have H' := Aside0.mk H
              clear H
              have hcz46_0 : wr.cell? ⟨gb367, 0, none⟩ = some (.int .i64 t359) := (blk_cell BK367.out 0).trans rfl
              have hcz46_1 : wr.cell? ⟨gb367, 1, none⟩ = some (.int .i64 t360) := (blk_cell BK367.out 1).trans rfl
              have hcz46_2 : wr.cell? ⟨gb367, 2, none⟩ = some (.slice Ao30 t361.length co30) := (blk_cell BK367.out 2).trans rfl
              have hcz46_3 : wr.cell? ⟨gb367, 3, none⟩ = some (.slice Ao31 t364.length co31) := (blk_cell BK367.out 3).trans rfl
              have hfz46_0 := blk_frozen BK367.out 0
              have hfz46_1 := blk_frozen BK367.out 1
              have hfz46_2 := blk_frozen BK367.out 2
              have hfz46_3 := blk_frozen BK367.out 3
              go_wp2
              go_loopg [5, 8] k1 (fun kq v5 v8 w' => ∃ (x5_2 : Int) (x8_2 : Int), v5 = .int .i64 x5_2 ∧ v8 = .int .i64 x8_2 ∧ Aside0 (laws_FnLoopLength.l2 kq t368 x5_2 x8_2 t359 t360 t361 t364 = some r) ∧ Aside0 (kq ≤ k1) ∧ Aside0 (Kd.Q (Kd.slice 4 Kd.bool) 45 w' w.heap.size (fun k_ => some k_ ≠ ((.slice Ao31 t364.length co31) : Value).ownBlock) (.slice Ao30 t361.length co30) t361) ∧ Aside0 (Kd.S (Kd.slice 4 Kd.bool) 45 w' w.heap.size (fun k_ => some k_ ≠ ((.slice Ao30 t361.length co30) : Value).ownBlock) (.slice Ao31 t364.length co31) t364) ∧ Aside0 (w'.heap[gb367]? = some (.cells #[.int .i64 t359, .int .i64 t360, (.slice Ao30 t361.length co30), (.slice Ao31 t364.length co31)] 27 (0, 0))) ∧ Aside0 (Below w.heap.size w w'))
              case atStart => exact ⟨(x5_1), (0), (by first | rfl | (simp; done) | (simp [*]; done)), (by first | rfl | (simp; done) | (simp [*]; done)), H', ⟨Nat.le_refl _⟩, ⟨by (with_reducible repeat (first | apply Kd.Q_alloc | apply Kd.Q_drewN | apply Kd.Q_drew)); exact HO_368002.out⟩, ⟨by (with_reducible repeat (first | apply Kd.S_alloc | apply Kd.S_drewN | apply Kd.S_drew)); exact HO_368003.out⟩, ⟨by (with_reducible repeat (first | refine blk_drewN ?_ _ | refine blk_drew ?_ | refine blk_alloc ?_ _)); exact BK367.out⟩, ⟨by repeat (first | (with_reducible first | exact HB.out | apply below_alloc | apply pw_below_drewN | apply below_drew1 | refine below_set ?_ GE367.out) | exact HB.out)⟩⟩
              case round =>
                clear H'
                try clear c1
                try clear c2
                try clear c2b0
                try clear c2b1
                try clear p2
                try clear c3
                try clear p3
                try clear q3
                try clear hx3
                try clear c4
                try clear q4
                try clear c6
                try clear c6b0
                try clear c6b1
                try clear p6
                try clear c7
                try clear c7b0
                try clear c8
                try clear c8b0
                try clear c8b1
                try clear c19
                try clear c21
                try clear c35
                try clear c35b0
                try clear c37
                try clear c37b0
                try clear p37
                try clear q37
                try clear hx37
                try clear c38
                try clear c38b0
                try clear c39
                try clear c39b0
                try clear c40
                try clear c40b0
                try clear q41
                try clear c42
                try clear hcz12_0
                try clear hcz12_1
                try clear hcz12_2
                try clear hcz12_3
                try clear hcz16_0
                try clear hcz16_1
                try clear hcz16_2
                try clear hcz16_3
                try clear hcz21_0
                try clear hcz21_1
                try clear hcz21_2
                try clear hcz21_3
                try clear hcz25_0
                try clear hcz25_1
                try clear hcz25_2
                try clear hcz25_3
                try clear hcz29_0
                try clear hcz29_1
                try clear hcz29_2
                try clear hcz29_3
                try clear hcz33_0
                try clear hcz33_1
                try clear hcz33_2
                try clear hcz33_3
                try clear hcz36_0
                try clear hcz36_1
                try clear hcz36_2
                try clear hcz36_3
                try clear hcz43_0
                try clear hcz43_1
                try clear hcz43_2
                try clear hcz43_3
                try clear hcz44_0
                try clear hcz44_1
                try clear hcz44_2
                try clear hcz44_3
                try clear hcz45_0
                try clear hcz45_1
                try clear hcz45_2
                try clear hcz45_3
                try clear hcz46_0
                try clear hcz46_1
                try clear hcz46_2
                try clear hcz46_3
                try clear hfz12_0
                try clear hfz12_1
                try clear hfz12_2
                try clear hfz12_3
                try clear hfz16_0
                try clear hfz16_1
                try clear hfz16_2
                try clear hfz16_3
                try clear hfz21_0
                try clear hfz21_1
                try clear hfz21_2
                try clear hfz21_3
                try clear hfz25_0
                try clear hfz25_1
                try clear hfz25_2
                try clear hfz25_3
                try clear hfz29_0
                try clear hfz29_1
                try clear hfz29_2
                try clear hfz29_3
                try clear hfz33_0
                try clear hfz33_1
                try clear hfz33_2
                try clear hfz33_3
                try clear hfz36_0
                try clear hfz36_1
                try clear hfz36_2
                try clear hfz36_3
                try clear hfz43_0
                try clear hfz43_1
                try clear hfz43_2
                try clear hfz43_3
                try clear hfz44_0
                try clear hfz44_1
                try clear hfz44_2
                try clear hfz44_3
                try clear hfz45_0
                try clear hfz45_1
                try clear hfz45_2
                try clear hfz45_3
                try clear hfz46_0
                try clear hfz46_1
                try clear hfz46_2
                try clear hfz46_3
                try clear hx371_0
                try clear hx372_0
                try clear hx373_0
                try clear p2
                try clear p371
                try clear p372
                try clear p373
                try clear q371
                try clear q372
                try clear q373
                obtain ⟨x5_2, x8_2, rfl, rfl, HA, HK2, HO_368002, HO_368003, BK367, HB⟩ := hrel
                cases gk with
                | zero => exact absurd HA.out (by simp [laws_FnLoopLength.l2])
                | succ k2 =>
                  have H := HA.out
                  clear HA
                  simp only [laws_FnLoopLength.l2] at H
                  by_cases c47 : x8_2 < (t364.length : Int)
                  · rw [if_pos c47] at H
                    have c47b0 : decide (x8_2 < (t364.length : Int)) = true := decide_eq_true c47
                    clear c47
                    have H' := Aside0.mk H
                    clear H
                    have hcz48_0 : wr.cell? ⟨gb367, 0, none⟩ = some (.int .i64 t359) := (blk_cell BK367.out 0).trans rfl
                    have hcz48_1 : wr.cell? ⟨gb367, 1, none⟩ = some (.int .i64 t360) := (blk_cell BK367.out 1).trans rfl
                    have hcz48_2 : wr.cell? ⟨gb367, 2, none⟩ = some (.slice Ao30 t361.length co30) := (blk_cell BK367.out 2).trans rfl
                    have hcz48_3 : wr.cell? ⟨gb367, 3, none⟩ = some (.slice Ao31 t364.length co31) := (blk_cell BK367.out 3).trans rfl
                    have hfz48_0 := blk_frozen BK367.out 0
                    have hfz48_1 := blk_frozen BK367.out 1
                    have hfz48_2 := blk_frozen BK367.out 2
                    have hfz48_3 := blk_frozen BK367.out 3
                    go_wp2
                    go_loopg [5, 9] k2 (fun kq v5 v9 w' => ∃ (x5_3 : Int) (x9_3 : Int), v5 = .int .i64 x5_3 ∧ v9 = .int .i64 x9_3 ∧ Aside0 (laws_FnLoopLength.l3 kq t368 x5_3 x8_2 x9_3 t359 t360 t361 t364 = some r) ∧ Aside0 (kq ≤ k2) ∧ Aside0 (Kd.Q (Kd.slice 4 Kd.bool) 45 w' w.heap.size (fun k_ => some k_ ≠ ((.slice Ao31 t364.length co31) : Value).ownBlock) (.slice Ao30 t361.length co30) t361) ∧ Aside0 (Kd.S (Kd.slice 4 Kd.bool) 45 w' w.heap.size (fun k_ => some k_ ≠ ((.slice Ao30 t361.length co30) : Value).ownBlock) (.slice Ao31 t364.length co31) t364) ∧ Aside0 (w'.heap[gb367]? = some (.cells #[.int .i64 t359, .int .i64 t360, (.slice Ao30 t361.length co30), (.slice Ao31 t364.length co31)] 27 (0, 0))) ∧ Aside0 (Below w.heap.size w w'))
                    case atStart => exact ⟨(x5_2), (0), (by first | rfl | (simp; done) | (simp [*]; done)), (by first | rfl | (simp; done) | (simp [*]; done)), H', ⟨Nat.le_refl _⟩, ⟨by (with_reducible repeat (first | apply Kd.Q_alloc | apply Kd.Q_drewN | apply Kd.Q_drew)); exact HO_368002.out⟩, ⟨by (with_reducible repeat (first | apply Kd.S_alloc | apply Kd.S_drewN | apply Kd.S_drew)); exact HO_368003.out⟩, ⟨by (with_reducible repeat (first | refine blk_drewN ?_ _ | refine blk_drew ?_ | refine blk_alloc ?_ _)); exact BK367.out⟩, ⟨by repeat (first | (with_reducible first | exact HB.out | apply below_alloc | apply pw_below_drewN | apply below_drew1 | refine below_set ?_ GE367.out) | exact HB.out)⟩⟩
                    case round =>
                      clear H'
                      try clear c1
                      try clear c2
                      try clear c2b0
                      try clear c2b1
                      try clear p2
                      try clear c3
                      try clear p3
                      try clear q3
                      try clear hx3
                      try clear c4
                      try clear q4
                      try clear c6
                      try clear c6b0
                      try clear c6b1
                      try clear p6
                      try clear c7
                      try clear c7b0
                      try clear c8
                      try clear c8b0
                      try clear c8b1
                      try clear c19
                      try clear c21
                      try clear c35
                      try clear c35b0
                      try clear c37
                      try clear c37b0
                      try clear p37
                      try clear q37
                      try clear hx37
                      try clear c38
                      try clear c38b0
                      try clear c39
                      try clear c39b0
                      try clear c40
                      try clear c40b0
                      try clear q41
                      try clear c42
                      try clear c47
                      try clear c47b0
                      try clear hcz12_0
                      try clear hcz12_1
                      try clear hcz12_2
                      try clear hcz12_3
                      try clear hcz16_0
                      try clear hcz16_1
                      try clear hcz16_2
                      try clear hcz16_3
                      try clear hcz21_0
                      try clear hcz21_1
                      try clear hcz21_2
                      try clear hcz21_3
                      try clear hcz25_0
                      try clear hcz25_1
                      try clear hcz25_2
                      try clear hcz25_3
                      try clear hcz29_0
                      try clear hcz29_1
                      try clear hcz29_2
                      try clear hcz29_3
                      try clear hcz33_0
                      try clear hcz33_1
                      try clear hcz33_2
                      try clear hcz33_3
                      try clear hcz36_0
                      try clear hcz36_1
                      try clear hcz36_2
                      try clear hcz36_3
                      try clear hcz43_0
                      try clear hcz43_1
                      try clear hcz43_2
                      try clear hcz43_3
                      try clear hcz44_0
                      try clear hcz44_1
                      try clear hcz44_2
                      try clear hcz44_3
                      try clear hcz45_0
                      try clear hcz45_1
                      try clear hcz45_2
                      try clear hcz45_3
                      try clear hcz46_0
                      try clear hcz46_1
                      try clear hcz46_2
                      try clear hcz46_3
                      try clear hcz48_0
                      try clear hcz48_1
                      try clear hcz48_2
                      try clear hcz48_3
                      try clear hfz12_0
                      try clear hfz12_1
                      try clear hfz12_2
                      try clear hfz12_3
                      try clear hfz16_0
                      try clear hfz16_1
                      try clear hfz16_2
                      try clear hfz16_3
                      try clear hfz21_0
                      try clear hfz21_1
                      try clear hfz21_2
                      try clear hfz21_3
                      try clear hfz25_0
                      try clear hfz25_1
                      try clear hfz25_2
                      try clear hfz25_3
                      try clear hfz29_0
                      try clear hfz29_1
                      try clear hfz29_2
                      try clear hfz29_3
                      try clear hfz33_0
                      try clear hfz33_1
                      try clear hfz33_2
                      try clear hfz33_3
                      try clear hfz36_0
                      try clear hfz36_1
                      try clear hfz36_2
                      try clear hfz36_3
                      try clear hfz43_0
                      try clear hfz43_1
                      try clear hfz43_2
                      try clear hfz43_3
                      try clear hfz44_0
                      try clear hfz44_1
                      try clear hfz44_2
                      try clear hfz44_3
                      try clear hfz45_0
                      try clear hfz45_1
                      try clear hfz45_2
                      try clear hfz45_3
                      try clear hfz46_0
                      try clear hfz46_1
                      try clear hfz46_2
                      try clear hfz46_3
                      try clear hfz48_0
                      try clear hfz48_1
                      try clear hfz48_2
                      try clear hfz48_3
                      try clear hx371_0
                      try clear hx372_0
                      try clear hx373_0
                      try clear p2
                      try clear p3
                      try clear p37
                      try clear p371
                      try clear p372
                      try clear p373
                      try clear p6
                      try clear q3
                      try clear q37
                      try clear q371
                      try clear q372
                      try clear q373
                      try clear q4
                      try clear q41
                      obtain ⟨x5_3, x9_3, rfl, rfl, HA, HK3, HO_368002, HO_368003, BK367, HB⟩ := hrel
                      cases gk with
                      | zero => exact absurd HA.out (by simp [laws_FnLoopLength.l3])
                      | succ k3 =>
                        have H := HA.out
                        clear HA
                        simp only [laws_FnLoopLength.l3] at H
                        by_cases c49 : 0 ≤ x8_2
                        · rw [if_pos c49] at H
                          have c49b0 : decide (0 ≤ x8_2) = true := decide_eq_true c49
                          clear c49
                          by_cases c50 : x8_2 < (t364.length : Int)
                          · rw [if_pos c50] at H
                            have c50b0 : decide (x8_2 < (t364.length : Int)) = true := decide_eq_true c50
                            clear c50
                            by_cases c51 : x9_3 < ((rd_L1 t364 x8_2).length : Int)
                            · rw [if_pos c51] at H
                              have c51b0 : decide (x9_3 < ((rd_L1 t364 x8_2).length : Int)) = true := decide_eq_true c51
                              clear c51
                              by_cases c52 : 0 ≤ x9_3
                              · rw [if_pos c52] at H
                                have c52b0 : decide (0 ≤ x9_3) = true := decide_eq_true c52
                                clear c52
                                obtain ⟨bq53, hbq53⟩ : ∃ b_ : Bool, b_ = (rdOf false (rd_L1 t364 x8_2) x9_3) := ⟨_, rfl⟩
                                replace H : (if bq53 = true then (laws_FnLoopLength.l3 k3 t368 (wrap64 (x5_3 + 1)) x8_2 (wrap64 (x9_3 + 1)) t359 t360 t361 t364) else (laws_FnLoopLength.l3 k3 t368 x5_3 x8_2 (wrap64 (x9_3 + 1)) t359 t360 t361 t364)) = some r := by rw [← hbq53] at H; exact H
                                have Nbq53 := Aside0.mk hbq53
                                clear hbq53
                                by_cases c54 : bq53 = true
                                · subst c54
                                  have H1 : (laws_FnLoopLength.l3 k3 t368 (wrap64 (x5_3 + 1)) x8_2 (wrap64 (x9_3 + 1)) t359 t360 t361 t364) = some r := by rw [if_pos rfl] at H; exact H
                                  clear H
                                  have H := H1
                                  clear H1
                                  have H' := Aside0.mk H
                                  clear H
                                  have hcz55_0 : wr.cell? ⟨gb367, 0, none⟩ = some (.int .i64 t359) := (blk_cell BK367.out 0).trans rfl
                                  have hcz55_1 : wr.cell? ⟨gb367, 1, none⟩ = some (.int .i64 t360) := (blk_cell BK367.out 1).trans rfl
                                  have hcz55_2 : wr.cell? ⟨gb367, 2, none⟩ = some (.slice Ao30 t361.length co30) := (blk_cell BK367.out 2).trans rfl
                                  have hcz55_3 : wr.cell? ⟨gb367, 3, none⟩ = some (.slice Ao31 t364.length co31) := (blk_cell BK367.out 3).trans rfl
                                  have hfz55_0 := blk_frozen BK367.out 0
                                  have hfz55_1 := blk_frozen BK367.out 1
                                  have hfz55_2 := blk_frozen BK367.out 2
                                  have hfz55_3 := blk_frozen BK367.out 3
                                  have p375 : 0 ≤ (x8_2 : Int) := of_decide_eq_true (by first | (with_reducible assumption) | assumption)
                                  have q375 : x8_2 < (t364.length : Int) := of_decide_eq_true (by first | (with_reducible assumption) | assumption)
                                  obtain ⟨ad375, A375_0, c375_0, e375, hx375_0, hl375_0, hi375_0⟩ := at_L1 (Kd.S_reads' HO_368003.out).2.2 x8_2 p375 q375
                                  cases e375
                                  obtain ⟨ce375, hce375, hMe375, hcc375⟩ := Kd.S_get HO_368003.out [] x8_2 p375 (by first | exact q375 | exact of_decide_eq_true (by first | (with_reducible assumption) | assumption) | (have e_ := (Kd.S_reads' HO_368003.out).1; omega))
                                  obtain ⟨ve375_0, rfl, ge375_0⟩ := hMe375
                                  have hv375_0 := hcc375 0 _ rfl
                                  rw [Nat.add_zero, show ((Kd.slice 4 Kd.bool)).sz = 1 from rfl, Nat.mul_one] at hv375_0
                                  replace hv375_0 := Option.some.inj (hv375_0.symm.trans hx375_0)
                                  rw [hv375_0] at ge375_0
                                  have HL375_0 := Aside0.mk (show Kd.R Kd.bool 4 _ _ _ _ (rd_L1 t364 x8_2) from ge375_0)
                                  clear hv375_0 ge375_0
                                  clear hcc375 hce375
                                  have HR375_0 := Aside0.mk hi375_0
                                  have HC375_0 := Aside0.mk hl375_0
                                  clear hi375_0 hl375_0
                                  replace p375 := eq_true p375
                                  replace q375 := eq_true q375
                                  have p376 : 0 ≤ (x8_2 : Int) := of_decide_eq_true (by first | (with_reducible assumption) | assumption)
                                  have q376 : x8_2 < (t364.length : Int) := of_decide_eq_true (by first | (with_reducible assumption) | assumption)
                                  obtain ⟨ad376, A376_0, c376_0, e376, hx376_0, hl376_0, hi376_0⟩ := at_L1 (Kd.S_reads' HO_368003.out).2.2 x8_2 p376 q376
                                  obtain rfl : ad375 = ad376 := (by injection e376)
                                  obtain ⟨ce376, hce376, hMe376, hcc376⟩ := Kd.S_get HO_368003.out [] x8_2 p376 (by first | exact q376 | exact of_decide_eq_true (by first | (with_reducible assumption) | assumption) | (have e_ := (Kd.S_reads' HO_368003.out).1; omega))
                                  obtain ⟨ve376_0, rfl, ge376_0⟩ := hMe376
                                  have hv376_0 := hcc376 0 _ rfl
                                  rw [Nat.add_zero, show ((Kd.slice 4 Kd.bool)).sz = 1 from rfl, Nat.mul_one] at hv376_0
                                  replace hv376_0 := Option.some.inj (hv376_0.symm.trans hx376_0)
                                  rw [hv376_0] at ge376_0
                                  have HL376_0 := Aside0.mk (show Kd.R Kd.bool 4 _ _ _ _ (rd_L1 t364 x8_2) from ge376_0)
                                  clear hv376_0 ge376_0
                                  clear hcc376 hce376
                                  have HR376_0 := Aside0.mk hi376_0
                                  have HC376_0 := Aside0.mk hl376_0
                                  clear hi376_0 hl376_0
                                  replace p376 := eq_true p376
                                  replace q376 := eq_true q376
                                  have ea_ := Option.some.inj (hx375_0.symm.trans hx376_0)
                                  injection ea_ with ea_ en_ ec_
                                  subst ea_
                                  subst ec_
                                  clear en_
                                  have p377 : 0 ≤ (x9_3 : Int) := of_decide_eq_true (by first | (with_reducible assumption) | assumption)
                                  have q377 : x9_3 < ((rd_L1 t364 x8_2).length : Int) := of_decide_eq_true (by first | (with_reducible assumption) | assumption)
                                  obtain ⟨ad377, e377, hx377_0⟩ := Kd.at_bool (by repeat (first | (with_reducible exact HR376_0.out) | (with_reducible refine Kd.C_alloc ?_ _) | (with_reducible refine Kd.C_drewN ?_ _) | (with_reducible refine Kd.C_drew ?_) | exact HR376_0.out)) x9_3 p377 q377
                                  (try rw [← Nbq53.out] at hx377_0)
                                  cases e377
                                  replace p377 := eq_true p377
                                  replace q377 := eq_true q377
                                  go_wp2
                                  go_roundg k3
                                  case measure => have := HK1.out; have := HK2.out; have := HK3.out; omega
                                  case rel => exact ⟨(wrap64 (x5_3 + 1)), (wrap64 (x9_3 + 1)), (by first | rfl | (simp; done) | (simp [*]; done)), (by first | rfl | (simp; done) | (simp [*]; done)), H', ⟨by have := HK1.out; have := HK2.out; have := HK3.out; omega⟩, ⟨by (with_reducible repeat (first | apply Kd.Q_alloc | apply Kd.Q_drewN | apply Kd.Q_drew)); exact HO_368002.out⟩, ⟨by (with_reducible repeat (first | apply Kd.S_alloc | apply Kd.S_drewN | apply Kd.S_drew)); exact HO_368003.out⟩, ⟨by (with_reducible repeat (first | refine blk_drewN ?_ _ | refine blk_drew ?_ | refine blk_alloc ?_ _)); exact BK367.out⟩, ⟨by repeat (first | (with_reducible first | exact HB.out | apply below_alloc | apply pw_below_drewN | apply below_drew1 | refine below_set ?_ GE367.out) | exact HB.out)⟩⟩
                                · replace c54 := Bool.eq_false_iff.mpr c54
                                  subst c54
                                  have H1 : (laws_FnLoopLength.l3 k3 t368 x5_3 x8_2 (wrap64 (x9_3 + 1)) t359 t360 t361 t364) = some r := by rw [if_neg (show ¬ (false = true) by decide)] at H; exact H
                                  clear H
                                  have H := H1
                                  clear H1
                                  have H' := Aside0.mk H
                                  clear H
                                  have hcz56_0 : wr.cell? ⟨gb367, 0, none⟩ = some (.int .i64 t359) := (blk_cell BK367.out 0).trans rfl
                                  have hcz56_1 : wr.cell? ⟨gb367, 1, none⟩ = some (.int .i64 t360) := (blk_cell BK367.out 1).trans rfl
                                  have hcz56_2 : wr.cell? ⟨gb367, 2, none⟩ = some (.slice Ao30 t361.length co30) := (blk_cell BK367.out 2).trans rfl
                                  have hcz56_3 : wr.cell? ⟨gb367, 3, none⟩ = some (.slice Ao31 t364.length co31) := (blk_cell BK367.out 3).trans rfl
                                  have hfz56_0 := blk_frozen BK367.out 0
                                  have hfz56_1 := blk_frozen BK367.out 1
                                  have hfz56_2 := blk_frozen BK367.out 2
                                  have hfz56_3 := blk_frozen BK367.out 3
                                  have p375 : 0 ≤ (x8_2 : Int) := of_decide_eq_true (by first | (with_reducible assumption) | assumption)
                                  have q375 : x8_2 < (t364.length : Int) := of_decide_eq_true (by first | (with_reducible assumption) | assumption)
                                  obtain ⟨ad375, A375_0, c375_0, e375, hx375_0, hl375_0, hi375_0⟩ := at_L1 (Kd.S_reads' HO_368003.out).2.2 x8_2 p375 q375
                                  cases e375
                                  obtain ⟨ce375, hce375, hMe375, hcc375⟩ := Kd.S_get HO_368003.out [] x8_2 p375 (by first | exact q375 | exact of_decide_eq_true (by first | (with_reducible assumption) | assumption) | (have e_ := (Kd.S_reads' HO_368003.out).1; omega))
                                  obtain ⟨ve375_0, rfl, ge375_0⟩ := hMe375
                                  have hv375_0 := hcc375 0 _ rfl
                                  rw [Nat.add_zero, show ((Kd.slice 4 Kd.bool)).sz = 1 from rfl, Nat.mul_one] at hv375_0
                                  replace hv375_0 := Option.some.inj (hv375_0.symm.trans hx375_0)
                                  rw [hv375_0] at ge375_0
                                  have HL375_0 := Aside0.mk (show Kd.R Kd.bool 4 _ _ _ _ (rd_L1 t364 x8_2) from ge375_0)
                                  clear hv375_0 ge375_0
                                  clear hcc375 hce375
                                  have HR375_0 := Aside0.mk hi375_0
                                  have HC375_0 := Aside0.mk hl375_0
                                  clear hi375_0 hl375_0
                                  replace p375 := eq_true p375
                                  replace q375 := eq_true q375
                                  have p376 : 0 ≤ (x8_2 : Int) := of_decide_eq_true (by first | (with_reducible assumption) | assumption)
                                  have q376 : x8_2 < (t364.length : Int) := of_decide_eq_true (by first | (with_reducible assumption) | assumption)
                                  obtain ⟨ad376, A376_0, c376_0, e376, hx376_0, hl376_0, hi376_0⟩ := at_L1 (Kd.S_reads' HO_368003.out).2.2 x8_2 p376 q376
                                  obtain rfl : ad375 = ad376 := (by injection e376)
                                  obtain ⟨ce376, hce376, hMe376, hcc376⟩ := Kd.S_get HO_368003.out [] x8_2 p376 (by first | exact q376 | exact of_decide_eq_true (by first | (with_reducible assumption) | assumption) | (have e_ := (Kd.S_reads' HO_368003.out).1; omega))
                                  obtain ⟨ve376_0, rfl, ge376_0⟩ := hMe376
                                  have hv376_0 := hcc376 0 _ rfl
                                  rw [Nat.add_zero, show ((Kd.slice 4 Kd.bool)).sz = 1 from rfl, Nat.mul_one] at hv376_0
                                  replace hv376_0 := Option.some.inj (hv376_0.symm.trans hx376_0)
                                  rw [hv376_0] at ge376_0
                                  have HL376_0 := Aside0.mk (show Kd.R Kd.bool 4 _ _ _ _ (rd_L1 t364 x8_2) from ge376_0)
                                  clear hv376_0 ge376_0
                                  clear hcc376 hce376
                                  have HR376_0 := Aside0.mk hi376_0
                                  have HC376_0 := Aside0.mk hl376_0
                                  clear hi376_0 hl376_0
                                  replace p376 := eq_true p376
                                  replace q376 := eq_true q376
                                  have ea_ := Option.some.inj (hx375_0.symm.trans hx376_0)
                                  injection ea_ with ea_ en_ ec_
                                  subst ea_
                                  subst ec_
                                  clear en_
                                  have p377 : 0 ≤ (x9_3 : Int) := of_decide_eq_true (by first | (with_reducible assumption) | assumption)
                                  have q377 : x9_3 < ((rd_L1 t364 x8_2).length : Int) := of_decide_eq_true (by first | (with_reducible assumption) | assumption)
                                  obtain ⟨ad377, e377, hx377_0⟩ := Kd.at_bool (by repeat (first | (with_reducible exact HR376_0.out) | (with_reducible refine Kd.C_alloc ?_ _) | (with_reducible refine Kd.C_drewN ?_ _) | (with_reducible refine Kd.C_drew ?_) | exact HR376_0.out)) x9_3 p377 q377
                                  (try rw [← Nbq53.out] at hx377_0)
                                  cases e377
                                  replace p377 := eq_true p377
                                  replace q377 := eq_true q377
                                  go_wp2
                                  go_roundg k3
                                  case measure => have := HK1.out; have := HK2.out; have := HK3.out; omega
                                  case rel => exact ⟨(x5_3), (wrap64 (x9_3 + 1)), (by first | rfl | (simp; done) | (simp [*]; done)), (by first | rfl | (simp; done) | (simp [*]; done)), H', ⟨by have := HK1.out; have := HK2.out; have := HK3.out; omega⟩, ⟨by (with_reducible repeat (first | apply Kd.Q_alloc | apply Kd.Q_drewN | apply Kd.Q_drew)); exact HO_368002.out⟩, ⟨by (with_reducible repeat (first | apply Kd.S_alloc | apply Kd.S_drewN | apply Kd.S_drew)); exact HO_368003.out⟩, ⟨by (with_reducible repeat (first | refine blk_drewN ?_ _ | refine blk_drew ?_ | refine blk_alloc ?_ _)); exact BK367.out⟩, ⟨by repeat (first | (with_reducible first | exact HB.out | apply below_alloc | apply pw_below_drewN | apply below_drew1 | refine below_set ?_ GE367.out) | exact HB.out)⟩⟩
                              · rw [if_neg c52] at H
                                exact absurd H (by simp)
                            · rw [if_neg c51] at H
                              have c51b0 : decide (x9_3 < ((rd_L1 t364 x8_2).length : Int)) = false := decide_eq_false c51
                              clear c51
                              have H' := Aside0.mk H
                              clear H
                              have hcz57_0 : wr.cell? ⟨gb367, 0, none⟩ = some (.int .i64 t359) := (blk_cell BK367.out 0).trans rfl
                              have hcz57_1 : wr.cell? ⟨gb367, 1, none⟩ = some (.int .i64 t360) := (blk_cell BK367.out 1).trans rfl
                              have hcz57_2 : wr.cell? ⟨gb367, 2, none⟩ = some (.slice Ao30 t361.length co30) := (blk_cell BK367.out 2).trans rfl
                              have hcz57_3 : wr.cell? ⟨gb367, 3, none⟩ = some (.slice Ao31 t364.length co31) := (blk_cell BK367.out 3).trans rfl
                              have hfz57_0 := blk_frozen BK367.out 0
                              have hfz57_1 := blk_frozen BK367.out 1
                              have hfz57_2 := blk_frozen BK367.out 2
                              have hfz57_3 := blk_frozen BK367.out 3
                              have p375 : 0 ≤ (x8_2 : Int) := of_decide_eq_true (by first | (with_reducible assumption) | assumption)
                              have q375 : x8_2 < (t364.length : Int) := of_decide_eq_true (by first | (with_reducible assumption) | assumption)
                              obtain ⟨ad375, A375_0, c375_0, e375, hx375_0, hl375_0, hi375_0⟩ := at_L1 (Kd.S_reads' HO_368003.out).2.2 x8_2 p375 q375
                              cases e375
                              obtain ⟨ce375, hce375, hMe375, hcc375⟩ := Kd.S_get HO_368003.out [] x8_2 p375 (by first | exact q375 | exact of_decide_eq_true (by first | (with_reducible assumption) | assumption) | (have e_ := (Kd.S_reads' HO_368003.out).1; omega))
                              obtain ⟨ve375_0, rfl, ge375_0⟩ := hMe375
                              have hv375_0 := hcc375 0 _ rfl
                              rw [Nat.add_zero, show ((Kd.slice 4 Kd.bool)).sz = 1 from rfl, Nat.mul_one] at hv375_0
                              replace hv375_0 := Option.some.inj (hv375_0.symm.trans hx375_0)
                              rw [hv375_0] at ge375_0
                              have HL375_0 := Aside0.mk (show Kd.R Kd.bool 4 _ _ _ _ (rd_L1 t364 x8_2) from ge375_0)
                              clear hv375_0 ge375_0
                              clear hcc375 hce375
                              have HR375_0 := Aside0.mk hi375_0
                              have HC375_0 := Aside0.mk hl375_0
                              clear hi375_0 hl375_0
                              replace p375 := eq_true p375
                              replace q375 := eq_true q375
                              go_wp2
                              go_roundg k3
                              case measure => have := HK1.out; have := HK2.out; have := HK3.out; omega
                              case rel => exact ⟨(x5_3), (wrap64 (x8_2 + 1)), (by first | rfl | (simp; done) | (simp [*]; done)), (by first | rfl | (simp; done) | (simp [*]; done)), H', ⟨by have := HK1.out; have := HK2.out; have := HK3.out; omega⟩, ⟨by (with_reducible repeat (first | apply Kd.Q_alloc | apply Kd.Q_drewN | apply Kd.Q_drew)); exact HO_368002.out⟩, ⟨by (with_reducible repeat (first | apply Kd.S_alloc | apply Kd.S_drewN | apply Kd.S_drew)); exact HO_368003.out⟩, ⟨by (with_reducible repeat (first | refine blk_drewN ?_ _ | refine blk_drew ?_ | refine blk_alloc ?_ _)); exact BK367.out⟩, ⟨by repeat (first | (with_reducible first | exact HB.out | apply below_alloc | apply pw_below_drewN | apply below_drew1 | refine below_set ?_ GE367.out) | exact HB.out)⟩⟩
                          · rw [if_neg c50] at H
                            exact absurd H (by simp)
                        · rw [if_neg c49] at H
                          exact absurd H (by simp)
                  · rw [if_neg c47] at H
                    have c47b0 : decide (x8_2 < (t364.length : Int)) = false := decide_eq_false c47
                    clear c47
                    by_cases c58 : x5_2 = t368
                    · rw [if_pos c58] at H
                      have c58b0 : (x5_2 == t368) = true := beq_iff_eq.mpr c58
                      have c58b1 : (x5_2 != t368) = false := bne_eq_false_iff_eq.mpr c58
                      clear c58
                      replace H := Option.bind_eq_some_iff.mp H
                      obtain ⟨t374, A590, H⟩ := H
                      replace H : (if t374 = true then (if t368 ≥ 4 then (some ((Int.tmod t368 2) == 0)) else (some false)) else (some true)) = some r := H
                      have A59 := Aside0.mk A590
                      clear A590
                      by_cases c60 : t374 = true
                      · subst c60
                        have H1 : (if t368 ≥ 4 then (some ((Int.tmod t368 2) == 0)) else (some false)) = some r := by rw [if_pos rfl] at H; exact H
                        clear H
                        have H := H1
                        clear H1
                        by_cases c61 : t368 ≥ 4
                        · rw [if_pos c61] at H
                          have c61b0 : decide (4 ≤ t368) = true := decide_eq_true c61
                          clear c61
                          obtain rfl := Option.some.inj H
                          have hcz62_0 : wr.cell? ⟨gb367, 0, none⟩ = some (.int .i64 t359) := (blk_cell BK367.out 0).trans rfl
                          have hcz62_1 : wr.cell? ⟨gb367, 1, none⟩ = some (.int .i64 t360) := (blk_cell BK367.out 1).trans rfl
                          have hcz62_2 : wr.cell? ⟨gb367, 2, none⟩ = some (.slice Ao30 t361.length co30) := (blk_cell BK367.out 2).trans rfl
                          have hcz62_3 : wr.cell? ⟨gb367, 3, none⟩ = some (.slice Ao31 t364.length co31) := (blk_cell BK367.out 3).trans rfl
                          have hfz62_0 := blk_frozen BK367.out 0
                          have hfz62_1 := blk_frozen BK367.out 1
                          have hfz62_2 := blk_frozen BK367.out 2
                          have hfz62_3 := blk_frozen BK367.out 3
                          go_wp2_with (first | (go_at_call 38; (with_reducible refine (impl_LoopClosed.calls k2 t359 t360 _ _ t361 _ _ t364 true _ ?side1 ?side2 ?side3 ?side4 A59.out).mono ?_); (case side1 => repeat (first | exact (Kd.Q_reads' HO_368002.out).2.2 | (with_reducible refine Kd.C_alloc ?_ _) | (with_reducible refine Kd.C_drewN ?_ _) | (with_reducible refine Kd.C_drew ?_))); (case side2 => exact (Kd.Q_reads' HO_368002.out).2.1); (case side3 => repeat (first | exact (Kd.S_reads' HO_368003.out).2.2 | (with_reducible refine Kd.C_alloc ?_ _) | (with_reducible refine Kd.C_drewN ?_ _) | (with_reducible refine Kd.C_drew ?_))); (case side4 => exact (Kd.S_reads' HO_368003.out).2.1); rintro e w63 ⟨rfl, hb⟩; have n0_ := Aside0.mk (Kd.Q_below (by (with_reducible repeat (first | apply Kd.Q_alloc | apply Kd.Q_drewN | apply Kd.Q_drew)); exact HO_368002.out) hb); have n1_ := Aside0.mk (Kd.S_below (by (with_reducible repeat (first | apply Kd.S_alloc | apply Kd.S_drewN | apply Kd.S_drew)); exact HO_368003.out) hb); have n2_ := Aside0.mk (blk_below (g := gb367) (o := .cells #[.int .i64 t359, .int .i64 t360, .slice Ao30 t361.length co30, .slice Ao31 t364.length co31] 27 (0, 0)) (by (with_reducible repeat (first | refine blk_drewN ?_ _ | refine blk_drew ?_ | refine blk_alloc ?_ _)); exact BK367.out) hb); have n3_ := Aside0.mk (below_step (by repeat (first | (with_reducible first | exact HB.out | apply below_alloc | apply pw_below_drewN | apply below_drew1 | refine below_set ?_ GE367.out) | exact HB.out)) hb); clear HO_368002; clear HO_368003; clear BK367; clear HB; have HO_368002 := n0_; have HO_368003 := n1_; have BK367 := n2_; have HB := n3_; clear n0_ n1_ n2_ n3_; (try clear hb); (try clear hb2); (try clear hk); (try clear hi)))
                          go_ret
                          exact ⟨by first | rfl | (simp [errW_none, errW_some] <;> rfl) | (simp [*, errW_none, errW_some] <;> rfl), by repeat (first | (with_reducible first | exact HB.out | apply below_alloc | apply pw_below_drewN | apply below_drew1 | refine below_set ?_ GE367.out) | exact HB.out)⟩
                        · rw [if_neg c61] at H
                          have c61b0 : decide (4 ≤ t368) = false := decide_eq_false c61
                          clear c61
                          obtain rfl := Option.some.inj H
                          have hcz64_0 : wr.cell? ⟨gb367, 0, none⟩ = some (.int .i64 t359) := (blk_cell BK367.out 0).trans rfl
                          have hcz64_1 : wr.cell? ⟨gb367, 1, none⟩ = some (.int .i64 t360) := (blk_cell BK367.out 1).trans rfl
                          have hcz64_2 : wr.cell? ⟨gb367, 2, none⟩ = some (.slice Ao30 t361.length co30) := (blk_cell BK367.out 2).trans rfl
                          have hcz64_3 : wr.cell? ⟨gb367, 3, none⟩ = some (.slice Ao31 t364.length co31) := (blk_cell BK367.out 3).trans rfl
                          have hfz64_0 := blk_frozen BK367.out 0
                          have hfz64_1 := blk_frozen BK367.out 1
                          have hfz64_2 := blk_frozen BK367.out 2
                          have hfz64_3 := blk_frozen BK367.out 3
                          go_wp2_with (first | (go_at_call 38; (with_reducible refine (impl_LoopClosed.calls k2 t359 t360 _ _ t361 _ _ t364 true _ ?side1 ?side2 ?side3 ?side4 A59.out).mono ?_); (case side1 => repeat (first | exact (Kd.Q_reads' HO_368002.out).2.2 | (with_reducible refine Kd.C_alloc ?_ _) | (with_reducible refine Kd.C_drewN ?_ _) | (with_reducible refine Kd.C_drew ?_))); (case side2 => exact (Kd.Q_reads' HO_368002.out).2.1); (case side3 => repeat (first | exact (Kd.S_reads' HO_368003.out).2.2 | (with_reducible refine Kd.C_alloc ?_ _) | (with_reducible refine Kd.C_drewN ?_ _) | (with_reducible refine Kd.C_drew ?_))); (case side4 => exact (Kd.S_reads' HO_368003.out).2.1); rintro e w65 ⟨rfl, hb⟩; have n0_ := Aside0.mk (Kd.Q_below (by (with_reducible repeat (first | apply Kd.Q_alloc | apply Kd.Q_drewN | apply Kd.Q_drew)); exact HO_368002.out) hb); have n1_ := Aside0.mk (Kd.S_below (by (with_reducible repeat (first | apply Kd.S_alloc | apply Kd.S_drewN | apply Kd.S_drew)); exact HO_368003.out) hb); have n2_ := Aside0.mk (blk_below (g := gb367) (o := .cells #[.int .i64 t359, .int .i64 t360, .slice Ao30 t361.length co30, .slice Ao31 t364.length co31] 27 (0, 0)) (by (with_reducible repeat (first | refine blk_drewN ?_ _ | refine blk_drew ?_ | refine blk_alloc ?_ _)); exact BK367.out) hb); have n3_ := Aside0.mk (below_step (by repeat (first | (with_reducible first | exact HB.out | apply below_alloc | apply pw_below_drewN | apply below_drew1 | refine below_set ?_ GE367.out) | exact HB.out)) hb); clear HO_368002; clear HO_368003; clear BK367; clear HB; have HO_368002 := n0_; have HO_368003 := n1_; have BK367 := n2_; have HB := n3_; clear n0_ n1_ n2_ n3_; (try clear hb); (try clear hb2); (try clear hk); (try clear hi)))
                          go_ret
                          exact ⟨by first | rfl | (simp [errW_none, errW_some] <;> rfl) | (simp [*, errW_none, errW_some] <;> rfl), by repeat (first | (with_reducible first | exact HB.out | apply below_alloc | apply pw_below_drewN | apply below_drew1 | refine below_set ?_ GE367.out) | exact HB.out)⟩
                      · replace c60 := Bool.eq_false_iff.mpr c60
                        subst c60
                        have H1 : (some true) = some r := by rw [if_neg (show ¬ (false = true) by decide)] at H; exact H
                        clear H
                        have H := H1
                        clear H1
                        obtain rfl := Option.some.inj H
                        have hcz66_0 : wr.cell? ⟨gb367, 0, none⟩ = some (.int .i64 t359) := (blk_cell BK367.out 0).trans rfl
                        have hcz66_1 : wr.cell? ⟨gb367, 1, none⟩ = some (.int .i64 t360) := (blk_cell BK367.out 1).trans rfl
                        have hcz66_2 : wr.cell? ⟨gb367, 2, none⟩ = some (.slice Ao30 t361.length co30) := (blk_cell BK367.out 2).trans rfl
                        have hcz66_3 : wr.cell? ⟨gb367, 3, none⟩ = some (.slice Ao31 t364.length co31) := (blk_cell BK367.out 3).trans rfl
                        have hfz66_0 := blk_frozen BK367.out 0
                        have hfz66_1 := blk_frozen BK367.out 1
                        have hfz66_2 := blk_frozen BK367.out 2
                        have hfz66_3 := blk_frozen BK367.out 3
                        go_wp2_with (first | (go_at_call 38; (with_reducible refine (impl_LoopClosed.calls k2 t359 t360 _ _ t361 _ _ t364 false _ ?side1 ?side2 ?side3 ?side4 A59.out).mono ?_); (case side1 => repeat (first | exact (Kd.Q_reads' HO_368002.out).2.2 | (with_reducible refine Kd.C_alloc ?_ _) | (with_reducible refine Kd.C_drewN ?_ _) | (with_reducible refine Kd.C_drew ?_))); (case side2 => exact (Kd.Q_reads' HO_368002.out).2.1); (case side3 => repeat (first | exact (Kd.S_reads' HO_368003.out).2.2 | (with_reducible refine Kd.C_alloc ?_ _) | (with_reducible refine Kd.C_drewN ?_ _) | (with_reducible refine Kd.C_drew ?_))); (case side4 => exact (Kd.S_reads' HO_368003.out).2.1); rintro e w67 ⟨rfl, hb⟩; have n0_ := Aside0.mk (Kd.Q_below (by (with_reducible repeat (first | apply Kd.Q_alloc | apply Kd.Q_drewN | apply Kd.Q_drew)); exact HO_368002.out) hb); have n1_ := Aside0.mk (Kd.S_below (by (with_reducible repeat (first | apply Kd.S_alloc | apply Kd.S_drewN | apply Kd.S_drew)); exact HO_368003.out) hb); have n2_ := Aside0.mk (blk_below (g := gb367) (o := .cells #[.int .i64 t359, .int .i64 t360, .slice Ao30 t361.length co30, .slice Ao31 t364.length co31] 27 (0, 0)) (by (with_reducible repeat (first | refine blk_drewN ?_ _ | refine blk_drew ?_ | refine blk_alloc ?_ _)); exact BK367.out) hb); have n3_ := Aside0.mk (below_step (by repeat (first | (with_reducible first | exact HB.out | apply below_alloc | apply pw_below_drewN | apply below_drew1 | refine below_set ?_ GE367.out) | exact HB.out)) hb); clear HO_368002; clear HO_368003; clear BK367; clear HB; have HO_368002 := n0_; have HO_368003 := n1_; have BK367 := n2_; have HB := n3_; clear n0_ n1_ n2_ n3_; (try clear hb); (try clear hb2); (try clear hk); (try clear hi)))
                        go_ret
                        exact ⟨by first | rfl | (simp [errW_none, errW_some] <;> rfl) | (simp [*, errW_none, errW_some] <;> rfl), by repeat (first | (with_reducible first | exact HB.out | apply below_alloc | apply pw_below_drewN | apply below_drew1 | refine below_set ?_ GE367.out) | exact HB.out)⟩
                    · rw [if_neg c58] at H
                      have c58b0 : (x5_2 == t368) = false := beq_eq_false_iff_ne.mpr c58
                      have c58b1 : (x5_2 != t368) = true := bne_iff_ne.mpr c58
                      obtain rfl := Option.some.inj H
                      have hcz68_0 : wr.cell? ⟨gb367, 0, none⟩ = some (.int .i64 t359) := (blk_cell BK367.out 0).trans rfl
                      have hcz68_1 : wr.cell? ⟨gb367, 1, none⟩ = some (.int .i64 t360) := (blk_cell BK367.out 1).trans rfl
                      have hcz68_2 : wr.cell? ⟨gb367, 2, none⟩ = some (.slice Ao30 t361.length co30) := (blk_cell BK367.out 2).trans rfl
                      have hcz68_3 : wr.cell? ⟨gb367, 3, none⟩ = some (.slice Ao31 t364.length co31) := (blk_cell BK367.out 3).trans rfl
                      have hfz68_0 := blk_frozen BK367.out 0
                      have hfz68_1 := blk_frozen BK367.out 1
                      have hfz68_2 := blk_frozen BK367.out 2
                      have hfz68_3 := blk_frozen BK367.out 3
                      go_wp2
                      go_ret
                      exact ⟨by first | rfl | (simp [errW_none, errW_some] <;> rfl) | (simp [*, errW_none, errW_some] <;> rfl), by repeat (first | (with_reducible first | exact HB.out | apply below_alloc | apply pw_below_drewN | apply below_drew1 | refine below_set ?_ GE367.out) | exact HB.out)⟩
    · rw [if_neg c6] at H
      have c6b0 : (t368 == t369) = false := beq_eq_false_iff_ne.mpr c6
      have c6b1 : (t368 != t369) = true := bne_iff_ne.mpr c6
      obtain rfl := Option.some.inj H
      go_enter Try.func7, Try.ntmps7
      go_wp2_with (first | ((with_reducible refine gate_callee (f := 37) rfl ?_); refine goesL_ (some 14) rfl rfl Try.func37 (by kernel_rfl) rfl #[.slice A0 l0.length c0] rfl (by (try simp only [List.map_toArray, List.map_cons, List.map_nil]); first | done | rfl | (simp only [List.length_drop, List.length_take]; rfl)) ?_; (with_reducible refine (spec_DrawLoopLength.calls k _ _ l0 t359 t360 t361 t364 _ ?side1 ?side2 A3.out).mono ?_); (case side1 => repeat (first | exact HR0.out | (with_reducible refine Kd.C_alloc ?_ _) | (with_reducible refine Kd.C_drewN ?_ _) | (with_reducible refine Kd.C_drew ?_))); (case side2 => exact HC0.out); rintro e w69 ⟨v362, v365, rfl, ho0, ho1, hb⟩; refine ⟨_, rfl, ?_⟩; have n0_ := Aside0.mk (Kd.Q_lower ho0 (below_size (by repeat (first | (with_reducible first | exact HB.out | apply below_alloc | apply pw_below_drewN | apply below_drew1) | exact HB.out)))); have n1_ := Aside0.mk (Kd.S_lower ho1 (below_size (by repeat (first | (with_reducible first | exact HB.out | apply below_alloc | apply pw_below_drewN | apply below_drew1) | exact HB.out)))); have n2_ := Aside0.mk (below_step (by repeat (first | (with_reducible first | exact HB.out | apply below_alloc | apply pw_below_drewN | apply below_drew1) | exact HB.out)) hb); clear HB; have HO363 := n0_; have HO366 := n1_; have HB := n2_; clear n0_ n1_ n2_; (try clear hb); (try clear hb2); (try clear hk); (try clear hi); (try clear ho0); (try clear ho1)) | ((with_reducible refine gate_dst (N := 3) rfl ?_); refine box_event ?hg (N := 3) ?hd (cs := #[.int .i64 0, .int .i64 0, .slice none 0 0, .slice none 0 0]) (t := 27) ?hr ?_; (case hd => rfl); (case hg => rfl); (case hr => first | (go_simp; done) | (go_simp; rfl)); intro gb367 hg w70 hbox hb; have n0_ := Aside0.mk (Kd.Q_below (by (with_reducible repeat (first | apply Kd.Q_alloc | apply Kd.Q_drewN | apply Kd.Q_drew)); exact HO363.out) hb); have n1_ := Aside0.mk (Kd.S_below (by (with_reducible repeat (first | apply Kd.S_alloc | apply Kd.S_drewN | apply Kd.S_drew)); exact HO366.out) hb); have n2_ := Aside0.mk (below_step (by repeat (first | (with_reducible first | exact HB.out | apply below_alloc | apply pw_below_drewN | apply below_drew1) | exact HB.out)) hb); have n3_ := Aside0.mk (hbox); have n4_ := Aside0.mk ((by rw [hg]; exact (below_size (by repeat (first | (with_reducible first | exact HB.out | apply below_alloc | apply pw_below_drewN | apply below_drew1) | exact HB.out))) : w.heap.size ≤ gb367)); have n5_ := Aside0.mk ((by rw [hg]; exact (below_size (by repeat (first | (with_reducible first | exact HB.out | apply below_alloc | apply pw_below_drewN | apply below_drew1) | exact HB.out))) : w.heap.size ≤ gb367)); clear HO363; clear HO366; clear HB; have HO363 := n0_; have HO366 := n1_; have HB := n2_; have BK367 := n3_; have GW367 := n4_; have GE367 := n5_; clear n0_ n1_ n2_ n3_ n4_ n5_; clear hb hbox hg; have hcz71_0 : w70.cell? ⟨gb367, 0, none⟩ = some (.int .i64 0) := (blk_cell BK367.out 0).trans rfl; have hcz71_1 : w70.cell? ⟨gb367, 1, none⟩ = some (.int .i64 0) := (blk_cell BK367.out 1).trans rfl; have hcz71_2 : w70.cell? ⟨gb367, 2, none⟩ = some (.slice none 0 0) := (blk_cell BK367.out 2).trans rfl; have hcz71_3 : w70.cell? ⟨gb367, 3, none⟩ = some (.slice none 0 0) := (blk_cell BK367.out 3).trans rfl; have hfz71_0 := blk_frozen BK367.out 0; have hfz71_1 := blk_frozen BK367.out 1; have hfz71_2 := blk_frozen BK367.out 2; have hfz71_3 := blk_frozen BK367.out 3; obtain ⟨Ao72, co72, eo72, _⟩ := Kd.Q_slice HO363.out; subst eo72; obtain ⟨Ao73, co73, eo73⟩ := Kd.S_slice HO366.out; subst eo73) | ((with_reducible refine gate_callee (f := 21) rfl ?_); refine goesL_ (some 16) rfl rfl Try.func21 (by kernel_rfl) rfl #[.agg #[.int .i64 t359, .int .i64 t360, .slice Ao72 t361.length co72, .slice Ao73 t364.length co73]] rfl (by (try simp only [List.map_toArray, List.map_cons, List.map_nil]); first | done | rfl | (simp only [List.length_drop, List.length_take]; rfl)) ?_; (with_reducible refine (impl_LoopLength.calls k t359 t360 _ _ t361 _ _ t364 t368 _ ?side1 ?side2 ?side3 ?side4 A4.out).mono ?_); (case side1 => refine (Kd.Q_reads' (e := 45) (base := w.heap.size) (ok := fun k_ => some k_ ≠ (.slice Ao73 t364.length co73 : Value).ownBlock) (n := t361.length) (c := co72) ?_).2.2; exact (by (with_reducible repeat (first | apply Kd.Q_alloc | apply Kd.Q_drewN | apply Kd.Q_drew)); exact (Kd.Q_mono (Kd.Q_far (p := ⟨gb367, 3, none⟩) (Kd.Q_far (p := ⟨gb367, 2, none⟩) (Kd.Q_far (p := ⟨gb367, 1, none⟩) (Kd.Q_far (p := ⟨gb367, 0, none⟩) (Kd.Q_types HO363.out BK367.out (by decide)) (fun _ hk => hk.2) (.int .i64 t359)) (fun _ hk => hk.2) (.int .i64 t360)) (fun _ hk => hk.2) (.slice Ao72 t361.length co72)) (fun _ hk => hk.2) (.slice Ao73 t364.length co73)) (fun _ h_ => h_.1)))); (case side2 => exact (Kd.Q_reads' HO363.out).2.1); (case side3 => refine (Kd.S_reads' (e := 45) (base := w.heap.size) (ok := fun k_ => some k_ ≠ (.slice Ao72 t361.length co72 : Value).ownBlock) (n := t364.length) (c := co73) ?_).2.2; exact (by (with_reducible repeat (first | apply Kd.S_alloc | apply Kd.S_drewN | apply Kd.S_drew)); exact (Kd.S_mono (Kd.S_far (p := ⟨gb367, 3, none⟩) (Kd.S_far (p := ⟨gb367, 2, none⟩) (Kd.S_far (p := ⟨gb367, 1, none⟩) (Kd.S_far (p := ⟨gb367, 0, none⟩) (Kd.S_types HO366.out BK367.out (by decide)) (fun _ hk => hk.2) (.int .i64 t359)) (fun _ hk => hk.2) (.int .i64 t360)) (fun _ hk => hk.2) (.slice Ao72 t361.length co72)) (fun _ hk => hk.2) (.slice Ao73 t364.length co73)) (fun _ h_ => h_.1)))); (case side4 => exact (Kd.S_reads' HO366.out).2.1); rintro e w74 ⟨rfl, hb⟩; refine ⟨_, rfl, ?_⟩; have n0_ := Aside0.mk (Kd.Q_below (by (with_reducible repeat (first | apply Kd.Q_alloc | apply Kd.Q_drewN | apply Kd.Q_drew)); exact (Kd.Q_mono (Kd.Q_far (p := ⟨gb367, 3, none⟩) (Kd.Q_far (p := ⟨gb367, 2, none⟩) (Kd.Q_far (p := ⟨gb367, 1, none⟩) (Kd.Q_far (p := ⟨gb367, 0, none⟩) (Kd.Q_types HO363.out BK367.out (by decide)) (fun _ hk => hk.2) (.int .i64 t359)) (fun _ hk => hk.2) (.int .i64 t360)) (fun _ hk => hk.2) (.slice Ao72 t361.length co72)) (fun _ hk => hk.2) (.slice Ao73 t364.length co73)) (fun _ h_ => h_.1))) hb); have n1_ := Aside0.mk (Kd.S_below (by (with_reducible repeat (first | apply Kd.S_alloc | apply Kd.S_drewN | apply Kd.S_drew)); exact (Kd.S_mono (Kd.S_far (p := ⟨gb367, 3, none⟩) (Kd.S_far (p := ⟨gb367, 2, none⟩) (Kd.S_far (p := ⟨gb367, 1, none⟩) (Kd.S_far (p := ⟨gb367, 0, none⟩) (Kd.S_types HO366.out BK367.out (by decide)) (fun _ hk => hk.2) (.int .i64 t359)) (fun _ hk => hk.2) (.int .i64 t360)) (fun _ hk => hk.2) (.slice Ao72 t361.length co72)) (fun _ hk => hk.2) (.slice Ao73 t364.length co73)) (fun _ h_ => h_.1))) hb); have n2_ := Aside0.mk (blk_below (g := gb367) (o := .cells #[.int .i64 t359, .int .i64 t360, .slice Ao72 t361.length co72, .slice Ao73 t364.length co73] 27 (0, 0)) (by (with_reducible repeat (first | refine blk_drewN ?_ _ | refine blk_drew ?_ | refine blk_alloc ?_ _)); refine blk_put (cs := #[.int .i64 t359, .int .i64 t360, .slice Ao72 t361.length co72, .slice none 0 0]) ?_ 3 _ rfl; (with_reducible repeat (first | refine blk_drewN ?_ _ | refine blk_drew ?_ | refine blk_alloc ?_ _)); refine blk_put (cs := #[.int .i64 t359, .int .i64 t360, .slice none 0 0, .slice none 0 0]) ?_ 2 _ rfl; (with_reducible repeat (first | refine blk_drewN ?_ _ | refine blk_drew ?_ | refine blk_alloc ?_ _)); refine blk_put (cs := #[.int .i64 t359, .int .i64 0, .slice none 0 0, .slice none 0 0]) ?_ 1 _ rfl; (with_reducible repeat (first | refine blk_drewN ?_ _ | refine blk_drew ?_ | refine blk_alloc ?_ _)); refine blk_put (cs := #[.int .i64 0, .int .i64 0, .slice none 0 0, .slice none 0 0]) ?_ 0 _ rfl; (with_reducible repeat (first | refine blk_drewN ?_ _ | refine blk_drew ?_ | refine blk_alloc ?_ _)); exact BK367.out) hb); have n3_ := Aside0.mk (below_step (by repeat (first | (with_reducible first | exact HB.out | apply below_alloc | apply pw_below_drewN | apply below_drew1 | refine below_set ?_ GE367.out) | exact HB.out)) hb); clear HO363; clear HO366; clear BK367; clear HB; have HO363 := n0_; have HO366 := n1_; have BK367 := n2_; have HB := n3_; clear n0_ n1_ n2_ n3_; (try clear hb); (try clear hb2); (try clear hk); (try clear hi); have hcz75_0 : w74.cell? ⟨gb367, 0, none⟩ = some (.int .i64 t359) := (blk_cell BK367.out 0).trans rfl; have hcz75_1 : w74.cell? ⟨gb367, 1, none⟩ = some (.int .i64 t360) := (blk_cell BK367.out 1).trans rfl; have hcz75_2 : w74.cell? ⟨gb367, 2, none⟩ = some (.slice Ao72 t361.length co72) := (blk_cell BK367.out 2).trans rfl; have hcz75_3 : w74.cell? ⟨gb367, 3, none⟩ = some (.slice Ao73 t364.length co73) := (blk_cell BK367.out 3).trans rfl; have hfz75_0 := blk_frozen BK367.out 0; have hfz75_1 := blk_frozen BK367.out 1; have hfz75_2 := blk_frozen BK367.out 2; have hfz75_3 := blk_frozen BK367.out 3) | ((with_reducible refine gate_callee (f := 19) rfl ?_); refine goesL_ (some 19) rfl rfl Try.func19 (by kernel_rfl) rfl #[.agg #[.int .i64 t359, .int .i64 t360, .slice Ao72 t361.length co72, .slice Ao73 t364.length co73]] rfl (by (try simp only [List.map_toArray, List.map_cons, List.map_nil]); first | done | rfl | (simp only [List.length_drop, List.length_take]; rfl)) ?_; (with_reducible refine (spec_LoopLength.calls k t359 t360 _ _ t361 _ _ t364 t369 _ ?side1 ?side2 ?side3 ?side4 A5.out).mono ?_); (case side1 => repeat (first | exact (Kd.Q_reads' HO363.out).2.2 | (with_reducible refine Kd.C_alloc ?_ _) | (with_reducible refine Kd.C_drewN ?_ _) | (with_reducible refine Kd.C_drew ?_))); (case side2 => exact (Kd.Q_reads' HO363.out).2.1); (case side3 => repeat (first | exact (Kd.S_reads' HO366.out).2.2 | (with_reducible refine Kd.C_alloc ?_ _) | (with_reducible refine Kd.C_drewN ?_ _) | (with_reducible refine Kd.C_drew ?_))); (case side4 => exact (Kd.S_reads' HO366.out).2.1); rintro e w76 ⟨rfl, hb⟩; refine ⟨_, rfl, ?_⟩; have n0_ := Aside0.mk (Kd.Q_below (by (with_reducible repeat (first | apply Kd.Q_alloc | apply Kd.Q_drewN | apply Kd.Q_drew)); exact HO363.out) hb); have n1_ := Aside0.mk (Kd.S_below (by (with_reducible repeat (first | apply Kd.S_alloc | apply Kd.S_drewN | apply Kd.S_drew)); exact HO366.out) hb); have n2_ := Aside0.mk (blk_below (g := gb367) (o := .cells #[.int .i64 t359, .int .i64 t360, .slice Ao72 t361.length co72, .slice Ao73 t364.length co73] 27 (0, 0)) (by (with_reducible repeat (first | refine blk_drewN ?_ _ | refine blk_drew ?_ | refine blk_alloc ?_ _)); exact BK367.out) hb); have n3_ := Aside0.mk (below_step (by repeat (first | (with_reducible first | exact HB.out | apply below_alloc | apply pw_below_drewN | apply below_drew1 | refine below_set ?_ GE367.out) | exact HB.out)) hb); clear HO363; clear HO366; clear BK367; clear HB; have HO363 := n0_; have HO366 := n1_; have BK367 := n2_; have HB := n3_; clear n0_ n1_ n2_ n3_; (try clear hb); (try clear hb2); (try clear hk); (try clear hi)))
      go_ret
      exact ⟨by first | rfl | (simp [errW_none, errW_some] <;> rfl) | (simp [*, errW_none, errW_some] <;> rfl), by repeat (first | (with_reducible first | exact HB.out | apply below_alloc | apply pw_below_drewN | apply below_drew1 | refine below_set ?_ GE367.out) | exact HB.out)⟩

/-- THE ONE PURE STATEMENT of laws_FnLoopLength: yours. -/
def laws_FnLoopLength.Pure : Prop := ∀ (l0 : List Int), l0.length ≤ maxLen → l0.length * 1 ≤ 140737488351232 → (∀ x ∈ l0, (Lit.int .u8 x).wf = true) → ∃ k, laws_FnLoopLength.f k l0 = some true
theorem laws_FnLoopLength.walk (P : laws_FnLoopLength.Pure) (a0 : Option Addr) (len0 cap0 : Nat) (z0 : List Int) (w : World) (w0 : (a0 = none ∧ len0 = 0 ∧ cap0 = 0 ∧ z0 = []) ∨ ∃ x, a0 = some x ∧ len0 ≤ cap0 ∧ cap0 ≤ maxLen ∧ z0.length = cap0 ∧ (∀ i, i < z0.length → w.cell? (x.add i) = some (.int .u8 (z0.getD i 0))) ∧ ∀ n ∈ z0, (Lit.int .u8 n).wf = true) (y0 : len0 * 1 ≤ 140737488351232) :
    Calls Try.prog 7 #[.slice a0 len0 cap0] w fun e w' => e = .returned (.bool true) ∧ Below w.heap.size w w' := by
  obtain ⟨l0, rfl, hr0, hm0, hw0, hc0⟩ := ReadsInt.ofRowC w0
  obtain ⟨k, h⟩ := P l0 hm0 y0 hw0
  refine (laws_FnLoopLength.calls k _ _ l0 true w (Kd.C_of_reads (d := (0 : Int)) (h1 := fun _ => rfl) hr0) hc0 h).mono ?_
  rintro e w' ⟨rfl, hd⟩
  exact ⟨rfl, hd⟩

end Go.Proofs.Ytdinbpfklikghaa.PLoops
