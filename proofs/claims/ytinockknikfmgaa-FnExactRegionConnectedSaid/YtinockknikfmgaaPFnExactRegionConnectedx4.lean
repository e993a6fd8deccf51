/- Functions of the program as plain Lean functions, and what a call of each comes to. No conditions. -/
import Derived.Test.YtinockknikfmgaaPFnExactRegionConnectedx0
import Derived.Test.YtinockknikfmgaaPFnExactRegionConnectedx3
namespace Go.Proofs.Ytinockknikfmgaa.PFnExactRegionConnected
open Go.RowKit Go.Proofs.YtinockknikfmgaaW.PrintWords Go.Proofs.YtinockknikfmgaaW.PrintLast Go.Proofs.YtinockknikfmgaaW.PrintMore
attribute [local go_sem] max2_int min2_int max_two min_two max_three min_three max_four min_four   -- for this text's walks alone
set_option linter.unusedVariables false
set_option linter.unusedSimpArgs false

/-! ### spec_RegionConnected: function 28 -/
mutual
def spec_RegionConnected.l0 : Nat → Int → List Int → List Bool → List Int → Int → Option (Bool)
  | 0, _, _, _, _, _ => none
  | k + 1, x1, x7, x8, x9, x10 => if x10 < (x9.length : Int) then (spec_RegionConnected.l1 k x1 x7 x8 x9 x10 0) else (some ((x9.length : Int) == (x7.length : Int)))
def spec_RegionConnected.l1 : Nat → Int → List Int → List Bool → List Int → Int → Int → Option (Bool)
  | 0, _, _, _, _, _, _ => none
  | k + 1, x1, x7, x8, x9, x10, x11 => if x11 < (x7.length : Int) then (if 0 ≤ x11 then (if 0 ≤ x10 then (if x10 < (x9.length : Int) then (if (wrap64 ((rd x7 x11) - (rd x9 x10))) = x1 then (if 0 ≤ (rd x7 x11) then (if (rd x7 x11) < (x8.length : Int) then (if (rdOf false x8 (rd x7 x11) = true) then (spec_RegionConnected.l1 k x1 x7 x8 x9 x10 (wrap64 (x11 + 1))) else (if x9.length < 17592186044416 then (spec_RegionConnected.l1 k x1 x7 (x8.set ((rd x7 x11) : Int).toNat true) (x9 ++ [rd x7 x11]) x10 (wrap64 (x11 + 1))) else (none))) else (none)) else (none)) else (if (wrap64 ((rd x7 x11) - (rd x9 x10))) = (wrap64 (-x1)) then (if 0 ≤ (rd x7 x11) then (if (rd x7 x11) < (x8.length : Int) then (if (rdOf false x8 (rd x7 x11) = true) then (spec_RegionConnected.l1 k x1 x7 x8 x9 x10 (wrap64 (x11 + 1))) else (if x9.length < 17592186044416 then (spec_RegionConnected.l1 k x1 x7 (x8.set ((rd x7 x11) : Int).toNat true) (x9 ++ [rd x7 x11]) x10 (wrap64 (x11 + 1))) else (none))) else (none)) else (none)) else (if (wrap64 ((rd x7 x11) - (rd x9 x10))) = 1 then (if x1 = 0 then (none) else (if (wrap64 (Int.tdiv (rd x7 x11) x1)) = (wrap64 (Int.tdiv (rd x9 x10) x1)) then (if 0 ≤ (rd x7 x11) then (if (rd x7 x11) < (x8.length : Int) then (if (rdOf false x8 (rd x7 x11) = true) then (spec_RegionConnected.l1 k x1 x7 x8 x9 x10 (wrap64 (x11 + 1))) else (if x9.length < 17592186044416 then (spec_RegionConnected.l1 k x1 x7 (x8.set ((rd x7 x11) : Int).toNat true) (x9 ++ [rd x7 x11]) x10 (wrap64 (x11 + 1))) else (none))) else (none)) else (none)) else (spec_RegionConnected.l1 k x1 x7 x8 x9 x10 (wrap64 (x11 + 1))))) else (if (wrap64 ((rd x7 x11) - (rd x9 x10))) = (-1) then (if x1 = 0 then (none) else (if (wrap64 (Int.tdiv (rd x7 x11) x1)) = (wrap64 (Int.tdiv (rd x9 x10) x1)) then (if 0 ≤ (rd x7 x11) then (if (rd x7 x11) < (x8.length : Int) then (if (rdOf false x8 (rd x7 x11) = true) then (spec_RegionConnected.l1 k x1 x7 x8 x9 x10 (wrap64 (x11 + 1))) else (if x9.length < 17592186044416 then (spec_RegionConnected.l1 k x1 x7 (x8.set ((rd x7 x11) : Int).toNat true) (x9 ++ [rd x7 x11]) x10 (wrap64 (x11 + 1))) else (none))) else (none)) else (none)) else (spec_RegionConnected.l1 k x1 x7 x8 x9 x10 (wrap64 (x11 + 1))))) else (spec_RegionConnected.l1 k x1 x7 x8 x9 x10 (wrap64 (x11 + 1))))))) else (none)) else (none)) else (none)) else (spec_RegionConnected.l0 k x1 x7 x8 x9 (wrap64 (x10 + 1)))
end
def spec_RegionConnected.f (k : Nat) (l0 : List Int) (a1 : Int) (a2 : Int) : Option (Bool) := (spec_RegionCells.f k l0 a1 a2).bind fun t156 => (if (t156.length : Int) = 0 then (some false) else (if 0 ≤ (l0.length : Int) then (if ((l0.length : Int) : Int).toNat ≤ 281474976710656 then ((some (List.replicate ((l0.length : Int) : Int).toNat false : List Bool)).bind fun y159 => (if 0 < (t156.length : Int) then (if 0 ≤ (rd t156 0) then (if (rd t156 0) < (y159.length : Int) then (spec_RegionConnected.l0 k a1 t156 (y159.set ((rd t156 0) : Int).toNat true) (([rd t156 0] : List Int)) 0) else (none)) else (none)) else (none))) else (none)) else (none)))
theorem spec_RegionConnected.mono_l : ∀ k, (∀ y0 y1 y2 y3 y4, LeO (spec_RegionConnected.l0 k y0 y1 y2 y3 y4) (spec_RegionConnected.l0 (k + 1) y0 y1 y2 y3 y4)) ∧ (∀ y0 y1 y2 y3 y4 y5, LeO (spec_RegionConnected.l1 k y0 y1 y2 y3 y4 y5) (spec_RegionConnected.l1 (k + 1) y0 y1 y2 y3 y4 y5))
  | 0 => ⟨fun _ _ _ _ _ r h => by simp [spec_RegionConnected.l0] at h, fun _ _ _ _ _ _ r h => by simp [spec_RegionConnected.l1] at h⟩
  | k + 1 => by
    obtain ⟨ih0, ih1⟩ := spec_RegionConnected.mono_l k
    refine ⟨?_, ?_⟩
    · intro y0 y1 y2 y3 y4
      unfold spec_RegionConnected.l0
      repeat' first
      | (with_reducible exact ih0 _ _ _ _ _)
      | (with_reducible exact ih1 _ _ _ _ _ _)
      | (with_reducible exact spec_RegionCells.mono _ _ _ _)
      | (with_reducible exact LeO.refl _)
      | (with_reducible exact LeO.none _)
      | (with_reducible refine LeO.ite ?_ ?_)
      | (with_reducible refine LeO.bind ?_ (fun _ => ?_))
      | exact ih0 _ _ _ _ _
      | exact ih1 _ _ _ _ _ _
      | exact spec_RegionCells.mono _ _ _ _
      | exact LeO.none _
      | refine LeO.ite ?_ ?_
      | refine LeO.bind ?_ (fun _ => ?_)
    · intro y0 y1 y2 y3 y4 y5
      unfold spec_RegionConnected.l1
      repeat' first
      | (with_reducible exact ih0 _ _ _ _ _)
      | (with_reducible exact ih1 _ _ _ _ _ _)
      | (with_reducible exact spec_RegionCells.mono _ _ _ _)
      | (with_reducible exact LeO.refl _)
      | (with_reducible exact LeO.none _)
      | (with_reducible refine LeO.ite ?_ ?_)
      | (with_reducible refine LeO.bind ?_ (fun _ => ?_))
      | exact ih0 _ _ _ _ _
      | exact ih1 _ _ _ _ _ _
      | exact spec_RegionCells.mono _ _ _ _
      | exact LeO.none _
      | refine LeO.ite ?_ ?_
      | refine LeO.bind ?_ (fun _ => ?_)
theorem spec_RegionConnected.mono : ∀ a0 a1 a2 k, LeO (spec_RegionConnected.f k a0 a1 a2) (spec_RegionConnected.f (k + 1) a0 a1 a2) := by
  intro a0 a1 a2 k
  obtain ⟨ih0, ih1⟩ := spec_RegionConnected.mono_l k
  unfold spec_RegionConnected.f
  repeat' first
      | (with_reducible exact ih0 _ _ _ _ _)
      | (with_reducible exact ih1 _ _ _ _ _ _)
      | (with_reducible exact spec_RegionCells.mono _ _ _ _)
      | (with_reducible exact LeO.refl _)
      | (with_reducible exact LeO.none _)
      | (with_reducible refine LeO.ite ?_ ?_)
      | (with_reducible refine LeO.bind ?_ (fun _ => ?_))
      | exact ih0 _ _ _ _ _
      | exact ih1 _ _ _ _ _ _
      | exact spec_RegionCells.mono _ _ _ _
      | exact LeO.none _
      | refine LeO.ite ?_ ?_
      | refine LeO.bind ?_ (fun _ => ?_)
set_option maxHeartbeats 8000000 in
set_option maxRecDepth 100000 in
theorem spec_RegionConnected.calls (k : Nat) (A0 : Option Addr) (c0 : Nat) (l0 : List Int) (a1 : Int) (a2 : Int) (r : Bool) (w : World) (hr0 : Kd.C (Kd.int .i64) w A0 l0.length l0) (hc0 : l0.length ≤ c0) (h : spec_RegionConnected.f k l0 a1 a2 = some r) :
    Calls Try.prog 28 #[.slice A0 l0.length c0, .int .i64 a1, .int .i64 a2] w fun e w' => e = .returned (.bool r) ∧ Below w.heap.size w w' := by
  have HR0 := Aside0.mk hr0
  have HC0 := Aside0.mk hc0
  clear hr0 hc0
  have HB := Aside0.mk (Below.refl w.heap.size w)
  have H : ((spec_RegionCells.f k l0 a1 a2).bind fun t156 => (if (t156.length : Int) = 0 then (some false) else (if 0 ≤ (l0.length : Int) then (if ((l0.length : Int) : Int).toNat ≤ 281474976710656 then ((some (List.replicate ((l0.length : Int) : Int).toNat false : List Bool)).bind fun y159 => (if 0 < (t156.length : Int) then (if 0 ≤ (rd t156 0) then (if (rd t156 0) < (y159.length : Int) then (spec_RegionConnected.l0 k a1 t156 (y159.set ((rd t156 0) : Int).toNat true) (([rd t156 0] : List Int)) 0) else (none)) else (none)) else (none))) else (none)) else (none)))) = some r := h
  clear h
  replace H := Option.bind_eq_some_iff.mp H
  obtain ⟨t156, A40, H⟩ := H
  replace H : (if (t156.length : Int) = 0 then (some false) else (if 0 ≤ (l0.length : Int) then (if ((l0.length : Int) : Int).toNat ≤ 281474976710656 then ((some (List.replicate ((l0.length : Int) : Int).toNat false : List Bool)).bind fun y159 => (if 0 < (t156.length : Int) then (if 0 ≤ (rd t156 0) then (if (rd t156 0) < (y159.length : Int) then (spec_RegionConnected.l0 k a1 t156 (y159.set ((rd t156 0) : Int).toNat true) (([rd t156 0] : List Int)) 0) else (none)) else (none)) else (none))) else (none)) else (none))) = some r := H
  have A4 := Aside0.mk A40
  clear A40
  by_cases c5 : (t156.length : Int) = 0
  · rw [if_pos c5] at H
    have c5b0 : ((t156.length : Int) == 0) = true := beq_iff_eq.mpr c5
    have c5b1 : ((t156.length : Int) != 0) = false := bne_eq_false_iff_eq.mpr c5
    clear c5
    obtain rfl := Option.some.inj H
    go_enter Try.func28, Try.ntmps28
    go_wp2_with (first | (go_at_call 23; (with_reducible refine (spec_RegionCells.calls k _ _ l0 a1 a2 t156 _ ?side1 ?side2 A4.out).mono ?_); (case side1 => repeat (first | exact HR0.out | (with_reducible refine Kd.C_alloc ?_ _) | (with_reducible refine Kd.C_drewN ?_ _) | (with_reducible refine Kd.C_drew ?_))); (case side2 => exact HC0.out); rintro e w6 ⟨v157, rfl, ho0, hb⟩; have n0_ := Aside0.mk (Kd.R_lower ho0 (below_size (by repeat (first | (with_reducible first | exact HB.out | apply below_alloc | apply pw_below_drewN | apply below_drew1) | exact HB.out)))); have n1_ := Aside0.mk (below_step (by repeat (first | (with_reducible first | exact HB.out | apply below_alloc | apply pw_below_drewN | apply below_drew1) | exact HB.out)) hb); clear HB; have HO158 := n0_; have HB := n1_; clear n0_ n1_; (try clear hb); (try clear hb2); (try clear hk); (try clear hi); (try clear ho0); obtain ⟨Ao7, co7, eo7⟩ := Kd.R_slice HO158.out; subst eo7))
    repeat (go_quiet (first | (go_at_call 23; (with_reducible refine (spec_RegionCells.calls k _ _ l0 a1 a2 t156 _ ?side1 ?side2 A4.out).mono ?_); (case side1 => repeat (first | exact HR0.out | (with_reducible refine Kd.C_alloc ?_ _) | (with_reducible refine Kd.C_drewN ?_ _) | (with_reducible refine Kd.C_drew ?_))); (case side2 => exact HC0.out); rintro e w6 ⟨v157, rfl, ho0, hb⟩; have n0_ := Aside0.mk (Kd.R_lower ho0 (below_size (by repeat (first | (with_reducible first | exact HB.out | apply below_alloc | apply pw_below_drewN | apply below_drew1) | exact HB.out)))); have n1_ := Aside0.mk (below_step (by repeat (first | (with_reducible first | exact HB.out | apply below_alloc | apply pw_below_drewN | apply below_drew1) | exact HB.out)) hb); clear HB; have HO158 := n0_; have HB := n1_; clear n0_ n1_; (try clear hb); (try clear hb2); (try clear hk); (try clear hi); (try clear ho0); obtain ⟨Ao7, co7, eo7⟩ := Kd.R_slice HO158.out; subst eo7)); try go_wp2_with (first | (go_at_call 23; (with_reducible refine (spec_RegionCells.calls k _ _ l0 a1 a2 t156 _ ?side1 ?side2 A4.out).mono ?_); (case side1 => repeat (first | exact HR0.out | (with_reducible refine Kd.C_alloc ?_ _) | (with_reducible refine Kd.C_drewN ?_ _) | (with_reducible refine Kd.C_drew ?_))); (case side2 => exact HC0.out); rintro e w6 ⟨v157, rfl, ho0, hb⟩; have n0_ := Aside0.mk (Kd.R_lower ho0 (below_size (by repeat (first | (with_reducible first | exact HB.out | apply below_alloc | apply pw_below_drewN | apply below_drew1) | exact HB.out)))); have n1_ := Aside0.mk (below_step (by repeat (first | (with_reducible first | exact HB.out | apply below_alloc | apply pw_below_drewN | apply below_drew1) | exact HB.out)) hb); clear HB; have HO158 := n0_; have HB := n1_; clear n0_ n1_; (try clear hb); (try clear hb2); (try clear hk); (try clear hi); (try clear ho0); obtain ⟨Ao7, co7, eo7⟩ := Kd.R_slice HO158.out; subst eo7)))
    go_ret
    exact ⟨by first | rfl | (simp [errW_none, errW_some] <;> rfl) | (simp [*, errW_none, errW_some] <;> rfl), by repeat (first | (with_reducible first | exact HB.out | apply below_alloc | apply pw_below_drewN | apply below_drew1) | exact HB.out)⟩
  · rw [if_neg c5] at H
    have c5b0 : ((t156.length : Int) == 0) = false := beq_eq_false_iff_ne.mpr c5
    have c5b1 : ((t156.length : Int) != 0) = true := bne_iff_ne.mpr c5
    have c5b2 : ¬ (t156 = []) := fun h_ => c5 (by rw [h_]; rfl)
    by_cases c8 : 0 ≤ (l0.length : Int)
    · rw [if_pos c8] at H
      have c8b0 := eq_true c8
      have c8b1 : decide (0 ≤ (l0.length : Int)) = true := decide_eq_true c8
      clear c8
      by_cases c9 : ((l0.length : Int) : Int).toNat ≤ 281474976710656
      · rw [if_pos c9] at H
        have c9b0 := eq_true c9
        have c9b1 : decide (((l0.length : Int) : Int).toNat ≤ 281474976710656) = true := decide_eq_true c9
        clear c9
        obtain ⟨y159, hy159⟩ : ∃ y_ : List Bool, y_ = (List.replicate ((l0.length : Int) : Int).toNat false) := ⟨_, rfl⟩
        replace H : (if 0 < (t156.length : Int) then (if 0 ≤ (rd t156 0) then (if (rd t156 0) < (y159.length : Int) then (spec_RegionConnected.l0 k a1 t156 (y159.set ((rd t156 0) : Int).toNat true) (([rd t156 0] : List Int)) 0) else (none)) else (none)) else (none)) = some r := by first | (rw [hy159]; with_reducible exact H) | (have H2_ := (Option.bind_some _ _).symm.trans H; rw [hy159]; with_reducible exact H2_) | (have H2_ := (Option.bind_some _ _).symm.trans H; with_reducible exact H2_) | with_reducible exact H | (rw [hy159]; exact H) | exact H
        have Ny159 := Aside0.mk hy159
        clear hy159
        by_cases c10 : 0 < (t156.length : Int)
        · rw [if_pos c10] at H
          have c10b0 : decide (0 < (t156.length : Int)) = true := decide_eq_true c10
          have c10b1 : decide (0 < t156.length) = true := decide_eq_true (by omega)
          clear c10
          obtain ⟨y163, hy163⟩ : ∃ y_ : List Int, y_ = (([rd t156 0] : List Int)) := ⟨_, rfl⟩
          replace H : (if 0 ≤ (rd t156 0) then (if (rd t156 0) < (y159.length : Int) then (spec_RegionConnected.l0 k a1 t156 (y159.set ((rd t156 0) : Int).toNat true) y163 0) else (none)) else (none)) = some r := by first | (rw [hy163]; with_reducible exact H) | (have H2_ := (Option.bind_some _ _).symm.trans H; rw [hy163]; with_reducible exact H2_) | (have H2_ := (Option.bind_some _ _).symm.trans H; with_reducible exact H2_) | with_reducible exact H | (rw [hy163]; exact H) | exact H
          have Ny163 := Aside0.mk hy163
          clear hy163
          by_cases c11 : 0 ≤ (rd t156 0)
          · rw [if_pos c11] at H
            have c11b0 : decide (0 ≤ (rd t156 0)) = true := decide_eq_true c11
            clear c11
            by_cases c12 : (rd t156 0) < (y159.length : Int)
            · rw [if_pos c12] at H
              have c12b0 : decide ((rd t156 0) < (y159.length : Int)) = true := decide_eq_true c12
              clear c12
              obtain ⟨y167, hy167⟩ : ∃ y_ : List Bool, y_ = (y159.set ((rd t156 0) : Int).toNat true) := ⟨_, rfl⟩
              replace H : (spec_RegionConnected.l0 k a1 t156 y167 y163 0) = some r := by first | (rw [hy167]; with_reducible exact H) | (have H2_ := (Option.bind_some _ _).symm.trans H; rw [hy167]; with_reducible exact H2_) | (have H2_ := (Option.bind_some _ _).symm.trans H; with_reducible exact H2_) | with_reducible exact H | (rw [hy167]; exact H) | exact H
              have Ny167 := Aside0.mk hy167
              clear hy167
              have H' := Aside0.mk H
              clear H
              go_enter Try.func28, Try.ntmps28
              go_wp2_with (first | (go_at_call 23; (with_reducible refine (spec_RegionCells.calls k _ _ l0 a1 a2 t156 _ ?side1 ?side2 A4.out).mono ?_); (case side1 => repeat (first | exact HR0.out | (with_reducible refine Kd.C_alloc ?_ _) | (with_reducible refine Kd.C_drewN ?_ _) | (with_reducible refine Kd.C_drew ?_))); (case side2 => exact HC0.out); rintro e w14 ⟨v157, rfl, ho0, hb⟩; have n0_ := Aside0.mk (Kd.R_lower ho0 (below_size (by repeat (first | (with_reducible first | exact HB.out | apply below_alloc | apply pw_below_drewN | apply below_drew1) | exact HB.out)))); have n1_ := Aside0.mk (below_step (by repeat (first | (with_reducible first | exact HB.out | apply below_alloc | apply pw_below_drewN | apply below_drew1) | exact HB.out)) hb); clear HB; have HO158 := n0_; have HB := n1_; clear n0_ n1_; (try clear hb); (try clear hb2); (try clear hk); (try clear hi); (try clear ho0); obtain ⟨Ao15, co15, eo15⟩ := Kd.R_slice HO158.out; subst eo15) | ((with_reducible refine gate_dst (N := 23) rfl ?_); refine Kd.R_make Kd.bool _ 4 rfl (N := 23) rfl 44 _ _ rfl (l0.length : Int) rfl rfl Try.underlying44 (.bool false) 1 info4 rfl (by decide) (by omega) false (ok := fun _ => True) (okp := fun _ => True) rfl (fun _ hk => hk) trivial (of_decide_eq_true (by first | (with_reducible assumption) | assumption)) (Nat.le_trans (Nat.mul_le_mul_right _ (of_decide_eq_true (by first | (with_reducible assumption) | assumption) : (l0.length : Int).toNat ≤ 281474976710656)) (by omega)) (Below.refl _ _) (Nat.le_refl _) ?_; intro v160 w16 ho17 hb hg_ hnew_; clear hg_ hnew_; (first | rw [← Ny159.out] at ho17 | (simp only [Int.reduceToNat] at ho17; rw [← Ny159.out] at ho17)); have n0_ := Aside0.mk (Kd.R_below (by (with_reducible repeat (first | apply Kd.R_alloc | apply Kd.R_drewN | apply Kd.R_drew)); exact HO158.out) hb); have n1_ := Aside0.mk (Kd.R_lower ho17 (below_size (by repeat (first | (with_reducible first | exact HB.out | apply below_alloc | apply pw_below_drewN | apply below_drew1) | exact HB.out)))); have n2_ := Aside0.mk (below_step (by repeat (first | (with_reducible first | exact HB.out | apply below_alloc | apply pw_below_drewN | apply below_drew1) | exact HB.out)) hb); clear HO158; clear HB; have HO158 := n0_; have HO161 := n1_; have HB := n2_; clear n0_ n1_ n2_; clear hb ho17; have p162 : 0 ≤ (0 : Int) := (by omega); have q162 : 0 < (t156.length : Int) := of_decide_eq_true (by first | (with_reducible assumption) | assumption); obtain ⟨ad162, e162, hx162_0⟩ := Kd.at_int (Kd.R_reads' HO158.out).2.2 0 p162 q162; cases e162; have qi162 : (0 < t156.length) = True := eq_true (by omega); (try rw [show ((0 : Int)).toNat = 0 from rfl] at hx162_0); (try rw [Addr.add_zero'] at hx162_0); replace p162 := eq_true p162; replace q162 := eq_true q162) | ((with_reducible refine gate_dst (N := 27) rfl ?_); refine Kd.R_lit (Kd.int .i64) _ 3 ?hg (N := 27) ?hd (xs := ([rd t156 0] : List Int)) (inner := [.int .i64 (rd t156 0)]) (ok := fun _ => True) (okp := fun _ => True) ?hr ?hp (fun _ hk => hk) trivial (Below.refl _ _) (Nat.le_refl _) (by simp) ?_; (case hd => rfl); (case hg => rfl); (case hr => first | (go_simp; done) | (go_simp; rfl)); (case hp => exact (Reps.one (show Kd.M (Kd.int .i64) _ _ _ (rd t156 0) [.int .i64 (rd t156 0)] from rfl) (Reps.none _ _))); intro v164 w18 ho19 hb hg_ hnew_; clear hg_ hnew_; (first | rw [← Ny163.out] at ho19 | (simp only [Int.reduceToNat] at ho19; rw [← Ny163.out] at ho19)); have n0_ := Aside0.mk (Kd.R_elder' (by (with_reducible repeat (first | apply Kd.R_alloc | apply Kd.R_drewN | apply Kd.R_drew)); exact HO158.out) (Kd.R_base ho19) hb); have n1_ := Aside0.mk (Kd.R_below (by (with_reducible repeat (first | apply Kd.R_alloc | apply Kd.R_drewN | apply Kd.R_drew)); exact HO161.out) hb); have n2_ := Aside0.mk (Kd.R_lower (Kd.R_new' ho19 (Kd.R_lt (by (with_reducible repeat (first | apply Kd.R_alloc | apply Kd.R_drewN | apply Kd.R_drew)); exact HO158.out))) (below_size (by repeat (first | (with_reducible first | exact HB.out | apply below_alloc | apply pw_below_drewN | apply below_drew1) | exact HB.out)))); have n3_ := Aside0.mk (below_step (by repeat (first | (with_reducible first | exact HB.out | apply below_alloc | apply pw_below_drewN | apply below_drew1) | exact HB.out)) hb); clear HO158; clear HO161; clear HB; have HO158 := n0_; have HO161 := n1_; have HO165 := n2_; have HB := n3_; clear n0_ n1_ n2_ n3_; clear hb ho19; have p166 : 0 ≤ (0 : Int) := (by omega); have q166 : 0 < (t156.length : Int) := of_decide_eq_true (by first | (with_reducible assumption) | assumption); obtain ⟨ad166, e166, hx166_0⟩ := Kd.at_int (Kd.R_reads' HO158.out).2.2 0 p166 q166; obtain rfl : ad162 = ad166 := (by injection e166); have qi166 : (0 < t156.length) = True := eq_true (by omega); (try rw [show ((0 : Int)).toNat = 0 from rfl] at hx166_0); (try rw [Addr.add_zero'] at hx166_0); replace p166 := eq_true p166; replace q166 := eq_true q166; have p13 : 0 ≤ ((rd t156 0) : Int) := of_decide_eq_true (by first | (with_reducible assumption) | assumption); have q13 : ((rd t156 0) : Int) < ((y159.length : Int) : Int) := of_decide_eq_true (by first | (with_reducible assumption) | assumption); obtain ⟨go13, co13, eo13, gb13, gl13, cl13, HG13⟩ := Kd.R_form HO161.out (by omega); (first | cases eo13 | (injection eo13 with ea_ en_ ec_; (first | subst ea_ | (injection ea_ with ea_; subst ea_)); subst ec_; clear en_)); have GB13 := Aside0.mk gb13; have GG13 := Aside0.mk HG13; clear gb13 gl13 HG13; obtain ⟨hx13_0, hf13_0⟩ := Kd.R_celln false HO161.out ((rd t156 0) : Int) p13 q13; replace p13 := eq_true p13; replace q13 := eq_true q13; obtain ⟨hy20_, hz20_⟩ := Kd.R_celln false HO161.out ((rd t156 0) : Int) (of_decide_eq_true (by first | (with_reducible assumption) | assumption)) (of_decide_eq_true (by first | (with_reducible assumption) | assumption)); have HP20 := Kd.R_putg HO161.out ((rd t156 0) : Int) true) | ((with_reducible refine gate_store (t := 4) (p := 32) rfl ?_); (try (rw [drewN_self w18]; generalize hq_ : World.drewN w18 _ = w18; have n0_ := Aside0.mk (Kd.R_at hq_ HO158.out); have n1_ := Aside0.mk (Kd.R_at hq_ HO161.out); have n2_ := Aside0.mk (Kd.R_at hq_ HO165.out); have n3_ := Aside0.mk (below_at hq_ HB.out); clear hq_ HO158 HO161 HO165 HB; have HO158 := n0_; have HO161 := n1_; have HO165 := n2_; have HB := n3_; clear n0_ n1_ n2_ n3_; (try (obtain ⟨hy20_, hz20_⟩ := Kd.R_celln false HO161.out ((rd t156 0) : Int) (of_decide_eq_true (by first | (with_reducible assumption) | assumption)) (of_decide_eq_true (by first | (with_reducible assumption) | assumption)))); (try (have HP20 := Kd.R_putg HO161.out ((rd t156 0) : Int) true)))); refine store_event (t := 4) (p := 32) (v := ?vo_w21) (w1 := (w18.setCell ⟨go13, ((rd t156 0) : Int).toNat, none⟩ (.bool true))) ?hg ?ho ?hn ?hr ?_; (case ho => rfl); (case hg => rfl); (case hn => rfl); (case hr => first | (go_simp; done) | (go_simp; rfl)); intro w21 hw; have hg : w18.grownBy w21 (some go13) := (by rw [hw]; exact HP20.2); have hp_ : Kd.R Kd.bool 4 w21 w.heap.size (fun _ => True) (.slice (some ⟨go13, 0, none⟩) y159.length co13) y167 := (by rw [hw, Ny167.out]; exact HP20.1); clear HP20; have n0_ := Aside0.mk (Kd.R_over' (v := (.slice (some ⟨go13, 0, none⟩) y159.length co13)) (by (with_reducible repeat (first | apply Kd.R_alloc | apply Kd.R_drewN | apply Kd.R_drew)); exact HO158.out) (Kd.R_typed HO161.out) (by decide) hg); have n1_ := Aside0.mk (hp_); have n2_ := Aside0.mk (Kd.R_over' (v := (.slice (some ⟨go13, 0, none⟩) y159.length co13)) (by (with_reducible repeat (first | apply Kd.R_alloc | apply Kd.R_drewN | apply Kd.R_drew)); exact HO165.out) (Kd.R_typed HO161.out) (by decide) hg); have n3_ := Aside0.mk ((by rw [hw]; exact below_set (HB.out) GB13.out : Below w.heap.size w w21)); clear HO158; clear HO161; clear HO165; clear HB; have HO158 := n0_; have HO161 := n1_; have HO165 := n2_; have HB := n3_; clear n0_ n1_ n2_ n3_; clear hg hw hp_))
              repeat (go_quiet (first | (go_at_call 23; (with_reducible refine (spec_RegionCells.calls k _ _ l0 a1 a2 t156 _ ?side1 ?side2 A4.out).mono ?_); (case side1 => repeat (first | exact HR0.out | (with_reducible refine Kd.C_alloc ?_ _) | (with_reducible refine Kd.C_drewN ?_ _) | (with_reducible refine Kd.C_drew ?_))); (case side2 => exact HC0.out); rintro e w14 ⟨v157, rfl, ho0, hb⟩; have n0_ := Aside0.mk (Kd.R_lower ho0 (below_size (by repeat (first | (with_reducible first | exact HB.out | apply below_alloc | apply pw_below_drewN | apply below_drew1) | exact HB.out)))); have n1_ := Aside0.mk (below_step (by repeat (first | (with_reducible first | exact HB.out | apply below_alloc | apply pw_below_drewN | apply below_drew1) | exact HB.out)) hb); clear HB; have HO158 := n0_; have HB := n1_; clear n0_ n1_; (try clear hb); (try clear hb2); (try clear hk); (try clear hi); (try clear ho0); obtain ⟨Ao15, co15, eo15⟩ := Kd.R_slice HO158.out; subst eo15) | ((with_reducible refine gate_dst (N := 23) rfl ?_); refine Kd.R_make Kd.bool _ 4 rfl (N := 23) rfl 44 _ _ rfl (l0.length : Int) rfl rfl Try.underlying44 (.bool false) 1 info4 rfl (by decide) (by omega) false (ok := fun _ => True) (okp := fun _ => True) rfl (fun _ hk => hk) trivial (of_decide_eq_true (by first | (with_reducible assumption) | assumption)) (Nat.le_trans (Nat.mul_le_mul_right _ (of_decide_eq_true (by first | (with_reducible assumption) | assumption) : (l0.length : Int).toNat ≤ 281474976710656)) (by omega)) (Below.refl _ _) (Nat.le_refl _) ?_; intro v160 w16 ho17 hb hg_ hnew_; clear hg_ hnew_; (first | rw [← Ny159.out] at ho17 | (simp only [Int.reduceToNat] at ho17; rw [← Ny159.out] at ho17)); have n0_ := Aside0.mk (Kd.R_below (by (with_reducible repeat (first | apply Kd.R_alloc | apply Kd.R_drewN | apply Kd.R_drew)); exact HO158.out) hb); have n1_ := Aside0.mk (Kd.R_lower ho17 (below_size (by repeat (first | (with_reducible first | exact HB.out | apply below_alloc | apply pw_below_drewN | apply below_drew1) | exact HB.out)))); have n2_ := Aside0.mk (below_step (by repeat (first | (with_reducible first | exact HB.out | apply below_alloc | apply pw_below_drewN | apply below_drew1) | exact HB.out)) hb); clear HO158; clear HB; have HO158 := n0_; have HO161 := n1_; have HB := n2_; clear n0_ n1_ n2_; clear hb ho17; have p162 : 0 ≤ (0 : Int) := (by omega); have q162 : 0 < (t156.length : Int) := of_decide_eq_true (by first | (with_reducible assumption) | assumption); obtain ⟨ad162, e162, hx162_0⟩ := Kd.at_int (Kd.R_reads' HO158.out).2.2 0 p162 q162; cases e162; have qi162 : (0 < t156.length) = True := eq_true (by omega); (try rw [show ((0 : Int)).toNat = 0 from rfl] at hx162_0); (try rw [Addr.add_zero'] at hx162_0); replace p162 := eq_true p162; replace q162 := eq_true q162) | ((with_reducible refine gate_dst (N := 27) rfl ?_); refine Kd.R_lit (Kd.int .i64) _ 3 ?hg (N := 27) ?hd (xs := ([rd t156 0] : List Int)) (inner := [.int .i64 (rd t156 0)]) (ok := fun _ => True) (okp := fun _ => True) ?hr ?hp (fun _ hk => hk) trivial (Below.refl _ _) (Nat.le_refl _) (by simp) ?_; (case hd => rfl); (case hg => rfl); (case hr => first | (go_simp; done) | (go_simp; rfl)); (case hp => exact (Reps.one (show Kd.M (Kd.int .i64) _ _ _ (rd t156 0) [.int .i64 (rd t156 0)] from rfl) (Reps.none _ _))); intro v164 w18 ho19 hb hg_ hnew_; clear hg_ hnew_; (first | rw [← Ny163.out] at ho19 | (simp only [Int.reduceToNat] at ho19; rw [← Ny163.out] at ho19)); have n0_ := Aside0.mk (Kd.R_elder' (by (with_reducible repeat (first | apply Kd.R_alloc | apply Kd.R_drewN | apply Kd.R_drew)); exact HO158.out) (Kd.R_base ho19) hb); have n1_ := Aside0.mk (Kd.R_below (by (with_reducible repeat (first | apply Kd.R_alloc | apply Kd.R_drewN | apply Kd.R_drew)); exact HO161.out) hb); have n2_ := Aside0.mk (Kd.R_lower (Kd.R_new' ho19 (Kd.R_lt (by (with_reducible repeat (first | apply Kd.R_alloc | apply Kd.R_drewN | apply Kd.R_drew)); exact HO158.out))) (below_size (by repeat (first | (with_reducible first | exact HB.out | apply below_alloc | apply pw_below_drewN | apply below_drew1) | exact HB.out)))); have n3_ := Aside0.mk (below_step (by repeat (first | (with_reducible first | exact HB.out | apply below_alloc | apply pw_below_drewN | apply below_drew1) | exact HB.out)) hb); clear HO158; clear HO161; clear HB; have HO158 := n0_; have HO161 := n1_; have HO165 := n2_; have HB := n3_; clear n0_ n1_ n2_ n3_; clear hb ho19; have p166 : 0 ≤ (0 : Int) := (by omega); have q166 : 0 < (t156.length : Int) := of_decide_eq_true (by first | (with_reducible assumption) | assumption); obtain ⟨ad166, e166, hx166_0⟩ := Kd.at_int (Kd.R_reads' HO158.out).2.2 0 p166 q166; obtain rfl : ad162 = ad166 := (by injection e166); have qi166 : (0 < t156.length) = True := eq_true (by omega); (try rw [show ((0 : Int)).toNat = 0 from rfl] at hx166_0); (try rw [Addr.add_zero'] at hx166_0); replace p166 := eq_true p166; replace q166 := eq_true q166; have p13 : 0 ≤ ((rd t156 0) : Int) := of_decide_eq_true (by first | (with_reducible assumption) | assumption); have q13 : ((rd t156 0) : Int) < ((y159.length : Int) : Int) := of_decide_eq_true (by first | (with_reducible assumption) | assumption); obtain ⟨go13, co13, eo13, gb13, gl13, cl13, HG13⟩ := Kd.R_form HO161.out (by omega); (first | cases eo13 | (injection eo13 with ea_ en_ ec_; (first | subst ea_ | (injection ea_ with ea_; subst ea_)); subst ec_; clear en_)); have GB13 := Aside0.mk gb13; have GG13 := Aside0.mk HG13; clear gb13 gl13 HG13; obtain ⟨hx13_0, hf13_0⟩ := Kd.R_celln false HO161.out ((rd t156 0) : Int) p13 q13; replace p13 := eq_true p13; replace q13 := eq_true q13; obtain ⟨hy20_, hz20_⟩ := Kd.R_celln false HO161.out ((rd t156 0) : Int) (of_decide_eq_true (by first | (with_reducible assumption) | assumption)) (of_decide_eq_true (by first | (with_reducible assumption) | assumption)); have HP20 := Kd.R_putg HO161.out ((rd t156 0) : Int) true) | ((with_reducible refine gate_store (t := 4) (p := 32) rfl ?_); (try (rw [drewN_self w18]; generalize hq_ : World.drewN w18 _ = w18; have n0_ := Aside0.mk (Kd.R_at hq_ HO158.out); have n1_ := Aside0.mk (Kd.R_at hq_ HO161.out); have n2_ := Aside0.mk (Kd.R_at hq_ HO165.out); have n3_ := Aside0.mk (below_at hq_ HB.out); clear hq_ HO158 HO161 HO165 HB; have HO158 := n0_; have HO161 := n1_; have HO165 := n2_; have HB := n3_; clear n0_ n1_ n2_ n3_; (try (obtain ⟨hy20_, hz20_⟩ := Kd.R_celln false HO161.out ((rd t156 0) : Int) (of_decide_eq_true (by first | (with_reducible assumption) | assumption)) (of_decide_eq_true (by first | (with_reducible assumption) | assumption)))); (try (have HP20 := Kd.R_putg HO161.out ((rd t156 0) : Int) true)))); refine store_event (t := 4) (p := 32) (v := ?vo_w21) (w1 := (w18.setCell ⟨go13, ((rd t156 0) : Int).toNat, none⟩ (.bool true))) ?hg ?ho ?hn ?hr ?_; (case ho => rfl); (case hg => rfl); (case hn => rfl); (case hr => first | (go_simp; done) | (go_simp; rfl)); intro w21 hw; have hg : w18.grownBy w21 (some go13) := (by rw [hw]; exact HP20.2); have hp_ : Kd.R Kd.bool 4 w21 w.heap.size (fun _ => True) (.slice (some ⟨go13, 0, none⟩) y159.length co13) y167 := (by rw [hw, Ny167.out]; exact HP20.1); clear HP20; have n0_ := Aside0.mk (Kd.R_over' (v := (.slice (some ⟨go13, 0, none⟩) y159.length co13)) (by (with_reducible repeat (first | apply Kd.R_alloc | apply Kd.R_drewN | apply Kd.R_drew)); exact HO158.out) (Kd.R_typed HO161.out) (by decide) hg); have n1_ := Aside0.mk (hp_); have n2_ := Aside0.mk (Kd.R_over' (v := (.slice (some ⟨go13, 0, none⟩) y159.length co13)) (by (with_reducible repeat (first | apply Kd.R_alloc | apply Kd.R_drewN | apply Kd.R_drew)); exact HO165.out) (Kd.R_typed HO161.out) (by decide) hg); have n3_ := Aside0.mk ((by rw [hw]; exact below_set (HB.out) GB13.out : Below w.heap.size w w21)); clear HO158; clear HO161; clear HO165; clear HB; have HO158 := n0_; have HO161 := n1_; have HO165 := n2_; have HB := n3_; clear n0_ n1_ n2_ n3_; clear hg hw hp_)); try go_wp2_with (first | (go_at_call 23; (with_reducible refine (spec_RegionCells.calls k _ _ l0 a1 a2 t156 _ ?side1 ?side2 A4.out).mono ?_); (case side1 => repeat (first | exact HR0.out | (with_reducible refine Kd.C_alloc ?_ _) | (with_reducible refine Kd.C_drewN ?_ _) | (with_reducible refine Kd.C_drew ?_))); (case side2 => exact HC0.out); rintro e w14 ⟨v157, rfl, ho0, hb⟩; have n0_ := Aside0.mk (Kd.R_lower ho0 (below_size (by repeat (first | (with_reducible first | exact HB.out | apply below_alloc | apply pw_below_drewN | apply below_drew1) | exact HB.out)))); have n1_ := Aside0.mk (below_step (by repeat (first | (with_reducible first | exact HB.out | apply below_alloc | apply pw_below_drewN | apply below_drew1) | exact HB.out)) hb); clear HB; have HO158 := n0_; have HB := n1_; clear n0_ n1_; (try clear hb); (try clear hb2); (try clear hk); (try clear hi); (try clear ho0); obtain ⟨Ao15, co15, eo15⟩ := Kd.R_slice HO158.out; subst eo15) | ((with_reducible refine gate_dst (N := 23) rfl ?_); refine Kd.R_make Kd.bool _ 4 rfl (N := 23) rfl 44 _ _ rfl (l0.length : Int) rfl rfl Try.underlying44 (.bool false) 1 info4 rfl (by decide) (by omega) false (ok := fun _ => True) (okp := fun _ => True) rfl (fun _ hk => hk) trivial (of_decide_eq_true (by first | (with_reducible assumption) | assumption)) (Nat.le_trans (Nat.mul_le_mul_right _ (of_decide_eq_true (by first | (with_reducible assumption) | assumption) : (l0.length : Int).toNat ≤ 281474976710656)) (by omega)) (Below.refl _ _) (Nat.le_refl _) ?_; intro v160 w16 ho17 hb hg_ hnew_; clear hg_ hnew_; (first | rw [← Ny159.out] at ho17 | (simp only [Int.reduceToNat] at ho17; rw [← Ny159.out] at ho17)); have n0_ := Aside0.mk (Kd.R_below (by (with_reducible repeat (first | apply Kd.R_alloc | apply Kd.R_drewN | apply Kd.R_drew)); exact HO158.out) hb); have n1_ := Aside0.mk (Kd.R_lower ho17 (below_size (by repeat (first | (with_reducible first | exact HB.out | apply below_alloc | apply pw_below_drewN | apply below_drew1) | exact HB.out)))); have n2_ := Aside0.mk (below_step (by repeat (first | (with_reducible first | exact HB.out | apply below_alloc | apply pw_below_drewN | apply below_drew1) | exact HB.out)) hb); clear HO158; clear HB; have HO158 := n0_; have HO161 := n1_; have HB := n2_; clear n0_ n1_ n2_; clear hb ho17; have p162 : 0 ≤ (0 : Int) := (by omega); have q162 : 0 < (t156.length : Int) := of_decide_eq_true (by first | (with_reducible assumption) | assumption); obtain ⟨ad162, e162, hx162_0⟩ := Kd.at_int (Kd.R_reads' HO158.out).2.2 0 p162 q162; cases e162; have qi162 : (0 < t156.length) = True := eq_true (by omega); (try rw [show ((0 : Int)).toNat = 0 from rfl] at hx162_0); (try rw [Addr.add_zero'] at hx162_0); replace p162 := eq_true p162; replace q162 := eq_true q162) | ((with_reducible refine gate_dst (N := 27) rfl ?_); refine Kd.R_lit (Kd.int .i64) _ 3 ?hg (N := 27) ?hd (xs := ([rd t156 0] : List Int)) (inner := [.int .i64 (rd t156 0)]) (ok := fun _ => True) (okp := fun _ => True) ?hr ?hp (fun _ hk => hk) trivial (Below.refl _ _) (Nat.le_refl _) (by simp) ?_; (case hd => rfl); (case hg => rfl); (case hr => first | (go_simp; done) | (go_simp; rfl)); (case hp => exact (Reps.one (show Kd.M (Kd.int .i64) _ _ _ (rd t156 0) [.int .i64 (rd t156 0)] from rfl) (Reps.none _ _))); intro v164 w18 ho19 hb hg_ hnew_; clear hg_ hnew_; (first | rw [← Ny163.out] at ho19 | (simp only [Int.reduceToNat] at ho19; rw [← Ny163.out] at ho19)); have n0_ := Aside0.mk (Kd.R_elder' (by (with_reducible repeat (first | apply Kd.R_alloc | apply Kd.R_drewN | apply Kd.R_drew)); exact HO158.out) (Kd.R_base ho19) hb); have n1_ := Aside0.mk (Kd.R_below (by (with_reducible repeat (first | apply Kd.R_alloc | apply Kd.R_drewN | apply Kd.R_drew)); exact HO161.out) hb); have n2_ := Aside0.mk (Kd.R_lower (Kd.R_new' ho19 (Kd.R_lt (by (with_reducible repeat (first | apply Kd.R_alloc | apply Kd.R_drewN | apply Kd.R_drew)); exact HO158.out))) (below_size (by repeat (first | (with_reducible first | exact HB.out | apply below_alloc | apply pw_below_drewN | apply below_drew1) | exact HB.out)))); have n3_ := Aside0.mk (below_step (by repeat (first | (with_reducible first | exact HB.out | apply below_alloc | apply pw_below_drewN | apply below_drew1) | exact HB.out)) hb); clear HO158; clear HO161; clear HB; have HO158 := n0_; have HO161 := n1_; have HO165 := n2_; have HB := n3_; clear n0_ n1_ n2_ n3_; clear hb ho19; have p166 : 0 ≤ (0 : Int) := (by omega); have q166 : 0 < (t156.length : Int) := of_decide_eq_true (by first | (with_reducible assumption) | assumption); obtain ⟨ad166, e166, hx166_0⟩ := Kd.at_int (Kd.R_reads' HO158.out).2.2 0 p166 q166; obtain rfl : ad162 = ad166 := (by injection e166); have qi166 : (0 < t156.length) = True := eq_true (by omega); (try rw [show ((0 : Int)).toNat = 0 from rfl] at hx166_0); (try rw [Addr.add_zero'] at hx166_0); replace p166 := eq_true p166; replace q166 := eq_true q166; have p13 : 0 ≤ ((rd t156 0) : Int) := of_decide_eq_true (by first | (with_reducible assumption) | assumption); have q13 : ((rd t156 0) : Int) < ((y159.length : Int) : Int) := of_decide_eq_true (by first | (with_reducible assumption) | assumption); obtain ⟨go13, co13, eo13, gb13, gl13, cl13, HG13⟩ := Kd.R_form HO161.out (by omega); (first | cases eo13 | (injection eo13 with ea_ en_ ec_; (first | subst ea_ | (injection ea_ with ea_; subst ea_)); subst ec_; clear en_)); have GB13 := Aside0.mk gb13; have GG13 := Aside0.mk HG13; clear gb13 gl13 HG13; obtain ⟨hx13_0, hf13_0⟩ := Kd.R_celln false HO161.out ((rd t156 0) : Int) p13 q13; replace p13 := eq_true p13; replace q13 := eq_true q13; obtain ⟨hy20_, hz20_⟩ := Kd.R_celln false HO161.out ((rd t156 0) : Int) (of_decide_eq_true (by first | (with_reducible assumption) | assumption)) (of_decide_eq_true (by first | (with_reducible assumption) | assumption)); have HP20 := Kd.R_putg HO161.out ((rd t156 0) : Int) true) | ((with_reducible refine gate_store (t := 4) (p := 32) rfl ?_); (try (rw [drewN_self w18]; generalize hq_ : World.drewN w18 _ = w18; have n0_ := Aside0.mk (Kd.R_at hq_ HO158.out); have n1_ := Aside0.mk (Kd.R_at hq_ HO161.out); have n2_ := Aside0.mk (Kd.R_at hq_ HO165.out); have n3_ := Aside0.mk (below_at hq_ HB.out); clear hq_ HO158 HO161 HO165 HB; have HO158 := n0_; have HO161 := n1_; have HO165 := n2_; have HB := n3_; clear n0_ n1_ n2_ n3_; (try (obtain ⟨hy20_, hz20_⟩ := Kd.R_celln false HO161.out ((rd t156 0) : Int) (of_decide_eq_true (by first | (with_reducible assumption) | assumption)) (of_decide_eq_true (by first | (with_reducible assumption) | assumption)))); (try (have HP20 := Kd.R_putg HO161.out ((rd t156 0) : Int) true)))); refine store_event (t := 4) (p := 32) (v := ?vo_w21) (w1 := (w18.setCell ⟨go13, ((rd t156 0) : Int).toNat, none⟩ (.bool true))) ?hg ?ho ?hn ?hr ?_; (case ho => rfl); (case hg => rfl); (case hn => rfl); (case hr => first | (go_simp; done) | (go_simp; rfl)); intro w21 hw; have hg : w18.grownBy w21 (some go13) := (by rw [hw]; exact HP20.2); have hp_ : Kd.R Kd.bool 4 w21 w.heap.size (fun _ => True) (.slice (some ⟨go13, 0, none⟩) y159.length co13) y167 := (by rw [hw, Ny167.out]; exact HP20.1); clear HP20; have n0_ := Aside0.mk (Kd.R_over' (v := (.slice (some ⟨go13, 0, none⟩) y159.length co13)) (by (with_reducible repeat (first | apply Kd.R_alloc | apply Kd.R_drewN | apply Kd.R_drew)); exact HO158.out) (Kd.R_typed HO161.out) (by decide) hg); have n1_ := Aside0.mk (hp_); have n2_ := Aside0.mk (Kd.R_over' (v := (.slice (some ⟨go13, 0, none⟩) y159.length co13)) (by (with_reducible repeat (first | apply Kd.R_alloc | apply Kd.R_drewN | apply Kd.R_drew)); exact HO165.out) (Kd.R_typed HO161.out) (by decide) hg); have n3_ := Aside0.mk ((by rw [hw]; exact below_set (HB.out) GB13.out : Below w.heap.size w w21)); clear HO158; clear HO161; clear HO165; clear HB; have HO158 := n0_; have HO161 := n1_; have HO165 := n2_; have HB := n3_; clear n0_ n1_ n2_ n3_; clear hg hw hp_)))
              go_loopg [9, 10] k (fun kq v9 v10 w' => ∃ (x8_1 : List Bool) (x9_1 : List Int) (x10_1 : Int), v10 = .int .i64 x10_1 ∧ Aside0 (spec_RegionConnected.l0 kq a1 t156 x8_1 x9_1 x10_1 = some r) ∧ Aside0 (kq ≤ k) ∧ Aside0 (Kd.R (Kd.int .i64) 3 w' w.heap.size (fun k_ => some k_ ≠ (v9 : Value).ownBlock) (.slice (some ad162) t156.length co15) t156) ∧ Aside0 (Kd.R Kd.bool 4 w' w.heap.size (fun _ => True) (.slice (some ⟨go13, 0, none⟩) y159.length co13) x8_1) ∧ Aside0 (Kd.R (Kd.int .i64) 3 w' w.heap.size (fun k_ => some k_ ≠ ((.slice (some ad162) t156.length co15) : Value).ownBlock) v9 x9_1) ∧ Aside0 (Below w.heap.size w w'))
              case atStart => exact ⟨(y167), (y163), (0), (by first | rfl | (simp; done) | (simp [*]; done)), H', ⟨Nat.le_refl _⟩, ⟨by (with_reducible repeat (first | apply Kd.R_alloc | apply Kd.R_drewN | apply Kd.R_drew)); exact Kd.R_mono HO158.out (fun _ hk => hk.2)⟩, ⟨by (with_reducible repeat (first | apply Kd.R_alloc | apply Kd.R_drewN | apply Kd.R_drew)); exact HO161.out⟩, ⟨by (with_reducible repeat (first | apply Kd.R_alloc | apply Kd.R_drewN | apply Kd.R_drew)); exact Kd.R_mono HO165.out (fun _ hk => hk.2)⟩, ⟨by repeat (first | (with_reducible first | exact HB.out | apply below_alloc | apply pw_below_drewN | apply below_drew1) | exact HB.out)⟩⟩
              case round =>
                clear H'
                try clear c1
                try clear p1
                try clear q1
                try clear hx1
                try clear qi1
                try clear c2
                try clear p2
                try clear c5
                try clear c5b0
                try clear c5b1
                try clear c5b2
                try clear c8
                try clear c8b0
                try clear c8b1
                try clear c9
                try clear c9b0
                try clear c9b1
                try clear c10
                try clear c10b0
                try clear c10b1
                try clear c11
                try clear c11b0
                try clear c12
                try clear c12b0
                try clear p13
                try clear q13
                try clear hx13
                try clear hf13
                try clear p16
                try clear q16
                try clear hx16
                try clear qi16
                try clear hx13_0
                try clear hx162_0
                try clear hx166_0
                try clear p13
                try clear p162
                try clear p166
                try clear q13
                try clear q162
                try clear q166
                obtain ⟨x8_1, x9_1, x10_1, rfl, HA, HK1, HO_7, HO_8, HO_9, HB⟩ := hrel
                have hl8_1 := (Kd.R_reads' HO_8.out).1
                rw [hl8_1] at HO_8
                (try simp only [hl8_1])
                (try simp only [hl8_1] at HO_7)
                (try simp only [hl8_1] at HO_9)
                cases gk with
                | zero => exact absurd HA.out (by simp [spec_RegionConnected.l0])
                | succ k1 =>
                  have H := HA.out
                  clear HA
                  simp only [spec_RegionConnected.l0] at H
                  by_cases c22 : x10_1 < (x9_1.length : Int)
                  · rw [if_pos c22] at H
                    have c22b0 : decide (x10_1 < (x9_1.length : Int)) = true := decide_eq_true c22
                    clear c22
                    have H' := Aside0.mk H
                    clear H
                    obtain ⟨Ao23, co23, eo23⟩ := Kd.R_slice HO_9.out
                    subst eo23
                    go_wp2
                    repeat (go_quiet (fail); try go_wp2)
                    go_loopg [9, 11] k1 (fun kq v9 v11 w' => ∃ (x8_2 : List Bool) (x9_2 : List Int) (x11_2 : Int), v11 = .int .i64 x11_2 ∧ Aside0 (spec_RegionConnected.l1 kq a1 t156 x8_2 x9_2 x10_1 x11_2 = some r) ∧ Aside0 (kq ≤ k1) ∧ Aside0 (Kd.R (Kd.int .i64) 3 w' w.heap.size (fun k_ => some k_ ≠ (v9 : Value).ownBlock) (.slice (some ad162) t156.length co15) t156) ∧ Aside0 (Kd.R Kd.bool 4 w' w.heap.size (fun _ => True) (.slice (some ⟨go13, 0, none⟩) x8_1.length co13) x8_2) ∧ Aside0 (Kd.R (Kd.int .i64) 3 w' w.heap.size (fun k_ => some k_ ≠ ((.slice (some ad162) t156.length co15) : Value).ownBlock) v9 x9_2) ∧ Aside0 (Below w.heap.size w w'))
                    case atStart => exact ⟨(x8_1), (x9_1), (0), (by first | rfl | (simp; done) | (simp [*]; done)), H', ⟨Nat.le_refl _⟩, ⟨by (try simp only [hl8_1]); (with_reducible repeat (first | apply Kd.R_alloc | apply Kd.R_drewN | apply Kd.R_drew)); exact HO_7.out⟩, ⟨by (try simp only [hl8_1]); (with_reducible repeat (first | apply Kd.R_alloc | apply Kd.R_drewN | apply Kd.R_drew)); exact HO_8.out⟩, ⟨by (try simp only [hl8_1]); (with_reducible repeat (first | apply Kd.R_alloc | apply Kd.R_drewN | apply Kd.R_drew)); exact HO_9.out⟩, ⟨by repeat (first | (with_reducible first | exact HB.out | apply below_alloc | apply pw_below_drewN | apply below_drew1) | exact HB.out)⟩⟩
                    case round =>
                      clear H'
                      try clear c1
                      try clear p1
                      try clear q1
                      try clear hx1
                      try clear qi1
                      try clear c2
                      try clear p2
                      try clear c5
                      try clear c5b0
                      try clear c5b1
                      try clear c5b2
                      try clear c8
                      try clear c8b0
                      try clear c8b1
                      try clear c9
                      try clear c9b0
                      try clear c9b1
                      try clear c10
                      try clear c10b0
                      try clear c10b1
                      try clear c11
                      try clear c11b0
                      try clear c12
                      try clear c12b0
                      try clear p13
                      try clear q13
                      try clear hx13
                      try clear hf13
                      try clear p16
                      try clear q16
                      try clear hx16
                      try clear qi16
                      try clear c22
                      try clear c22b0
                      try clear hx13_0
                      try clear hx162_0
                      try clear hx166_0
                      try clear p1
                      try clear p13
                      try clear p16
                      try clear p162
                      try clear p166
                      try clear p2
                      try clear q1
                      try clear q13
                      try clear q16
                      try clear q162
                      try clear q166
                      obtain ⟨x8_2, x9_2, x11_2, rfl, HA, HK2, HO_7, HO_8, HO_9, HB⟩ := hrel
                      have hl8_2 := (Kd.R_reads' HO_8.out).1
                      rw [hl8_2] at HO_8
                      (try simp only [hl8_2])
                      (try simp only [hl8_2] at HO_7)
                      (try simp only [hl8_2] at HO_9)
                      cases gk with
                      | zero => exact absurd HA.out (by simp [spec_RegionConnected.l1])
                      | succ k2 =>
                        have H := HA.out
                        clear HA
                        simp only [spec_RegionConnected.l1] at H
                        by_cases c24 : x11_2 < (t156.length : Int)
                        · rw [if_pos c24] at H
                          have c24b0 : decide (x11_2 < (t156.length : Int)) = true := decide_eq_true c24
                          clear c24
                          by_cases c25 : 0 ≤ x11_2
                          · rw [if_pos c25] at H
                            have c25b0 : decide (0 ≤ x11_2) = true := decide_eq_true c25
                            clear c25
                            by_cases c26 : 0 ≤ x10_1
                            · rw [if_pos c26] at H
                              have c26b0 : decide (0 ≤ x10_1) = true := decide_eq_true c26
                              clear c26
                              by_cases c27 : x10_1 < (x9_2.length : Int)
                              · rw [if_pos c27] at H
                                have c27b0 : decide (x10_1 < (x9_2.length : Int)) = true := decide_eq_true c27
                                clear c27
                                by_cases c28 : (wrap64 ((rd t156 x11_2) - (rd x9_2 x10_1))) = a1
                                · rw [if_pos c28] at H
                                  have c28b0 : ((wrap64 ((rd t156 x11_2) - (rd x9_2 x10_1))) == a1) = true := beq_iff_eq.mpr c28
                                  have c28b1 : ((wrap64 ((rd t156 x11_2) - (rd x9_2 x10_1))) != a1) = false := bne_eq_false_iff_eq.mpr c28
                                  clear c28
                                  by_cases c29 : 0 ≤ (rd t156 x11_2)
                                  · rw [if_pos c29] at H
                                    have c29b0 : decide (0 ≤ (rd t156 x11_2)) = true := decide_eq_true c29
                                    clear c29
                                    by_cases c30 : (rd t156 x11_2) < (x8_2.length : Int)
                                    · rw [if_pos c30] at H
                                      have c30b0 : decide ((rd t156 x11_2) < (x8_2.length : Int)) = true := decide_eq_true c30
                                      clear c30
                                      obtain ⟨bq31, hbq31⟩ : ∃ b_ : Bool, b_ = (rdOf false x8_2 (rd t156 x11_2)) := ⟨_, rfl⟩
                                      replace H : (if (bq31 = true) then (spec_RegionConnected.l1 k2 a1 t156 x8_2 x9_2 x10_1 (wrap64 (x11_2 + 1))) else (if x9_2.length < 17592186044416 then (spec_RegionConnected.l1 k2 a1 t156 (x8_2.set ((rd t156 x11_2) : Int).toNat true) (x9_2 ++ [rd t156 x11_2]) x10_1 (wrap64 (x11_2 + 1))) else (none))) = some r := by rw [← hbq31] at H; exact H
                                      have Nbq31 := Aside0.mk hbq31
                                      clear hbq31
                                      by_cases c32 : (bq31 = true)
                                      · subst c32
                                        have H1 : (spec_RegionConnected.l1 k2 a1 t156 x8_2 x9_2 x10_1 (wrap64 (x11_2 + 1))) = some r := by rw [if_pos rfl] at H; exact H
                                        clear H
                                        have H := H1
                                        clear H1
                                        have H' := Aside0.mk H
                                        clear H
                                        have p168 : 0 ≤ (x11_2 : Int) := of_decide_eq_true (by first | (with_reducible assumption) | assumption)
                                        have q168 : x11_2 < (t156.length : Int) := of_decide_eq_true (by first | (with_reducible assumption) | assumption)
                                        obtain ⟨ad168, e168, hx168_0⟩ := Kd.at_int (Kd.R_reads' HO_7.out).2.2 x11_2 p168 q168
                                        obtain rfl : ad162 = ad168 := (by injection e168)
                                        replace p168 := eq_true p168
                                        replace q168 := eq_true q168
                                        obtain ⟨Ao33, co33, eo33⟩ := Kd.R_slice HO_9.out
                                        subst eo33
                                        have p169 : 0 ≤ (x10_1 : Int) := of_decide_eq_true (by first | (with_reducible assumption) | assumption)
                                        have q169 : x10_1 < (x9_2.length : Int) := of_decide_eq_true (by first | (with_reducible assumption) | assumption)
                                        obtain ⟨ad169, e169, hx169_0⟩ := Kd.at_int (Kd.R_reads' HO_9.out).2.2 x10_1 p169 q169
                                        cases e169
                                        replace p169 := eq_true p169
                                        replace q169 := eq_true q169
                                        have p170 : 0 ≤ (x11_2 : Int) := of_decide_eq_true (by first | (with_reducible assumption) | assumption)
                                        have q170 : x11_2 < (t156.length : Int) := of_decide_eq_true (by first | (with_reducible assumption) | assumption)
                                        obtain ⟨ad170, e170, hx170_0⟩ := Kd.at_int (Kd.R_reads' HO_7.out).2.2 x11_2 p170 q170
                                        obtain rfl : ad162 = ad170 := (by injection e170)
                                        replace p170 := eq_true p170
                                        replace q170 := eq_true q170
                                        have p171 : 0 ≤ ((rd t156 x11_2) : Int) := of_decide_eq_true (by first | (with_reducible assumption) | assumption)
                                        have q171 : (rd t156 x11_2) < (x8_2.length : Int) := of_decide_eq_true (by first | (with_reducible assumption) | assumption)
                                        obtain ⟨ad171, e171, hx171_0⟩ := Kd.at_bool (Kd.R_reads' HO_8.out).2.2 (rd t156 x11_2) p171 q171
                                        (try rw [← Nbq31.out] at hx171_0)
                                        obtain rfl : (⟨go13, 0, none⟩ : Addr) = ad171 := (by injection e171)
                                        (first | simp only [add_plain] at hx171_0 | simp only [add_at] at hx171_0 | simp only [Addr.add, Nat.zero_add] at hx171_0 | skip)
                                        replace p171 := eq_true p171
                                        replace q171 := eq_true q171
                                        go_wp2
                                        repeat (go_quiet (fail); try go_wp2)
                                        (try simp only [← hl8_2])
                                        go_roundg k2
                                        case measure => have := HK1.out; have := HK2.out; omega
                                        case rel => exact ⟨(x8_2), (x9_2), (wrap64 (x11_2 + 1)), (by first | rfl | (simp; done) | (simp [*]; done)), H', ⟨by have := HK1.out; have := HK2.out; omega⟩, ⟨by (try simp only [hl8_1]); (try simp only [hl8_2]); (with_reducible repeat (first | apply Kd.R_alloc | apply Kd.R_drewN | apply Kd.R_drew)); exact HO_7.out⟩, ⟨by (try simp only [hl8_1]); (try simp only [hl8_2]); (with_reducible repeat (first | apply Kd.R_alloc | apply Kd.R_drewN | apply Kd.R_drew)); exact HO_8.out⟩, ⟨by (try simp only [hl8_1]); (try simp only [hl8_2]); (with_reducible repeat (first | apply Kd.R_alloc | apply Kd.R_drewN | apply Kd.R_drew)); exact HO_9.out⟩, ⟨by repeat (first | (with_reducible first | exact HB.out | apply below_alloc | apply pw_below_drewN | apply below_drew1) | exact HB.out)⟩⟩
                                      · replace c32 := Bool.eq_false_iff.mpr c32
                                        subst c32
                                        have H1 : (if x9_2.length < 17592186044416 then (spec_RegionConnected.l1 k2 a1 t156 (x8_2.set ((rd t156 x11_2) : Int).toNat true) (x9_2 ++ [rd t156 x11_2]) x10_1 (wrap64 (x11_2 + 1))) else (none)) = some r := by rw [if_neg (show ¬ (false = true) by decide)] at H; exact H
                                        clear H
                                        have H := H1
                                        clear H1
                                        obtain ⟨y173, hy173⟩ : ∃ y_ : List Bool, y_ = (x8_2.set ((rd t156 x11_2) : Int).toNat true) := ⟨_, rfl⟩
                                        replace H : (if x9_2.length < 17592186044416 then (spec_RegionConnected.l1 k2 a1 t156 y173 (x9_2 ++ [rd t156 x11_2]) x10_1 (wrap64 (x11_2 + 1))) else (none)) = some r := by first | (rw [hy173]; with_reducible exact H) | (have H2_ := (Option.bind_some _ _).symm.trans H; rw [hy173]; with_reducible exact H2_) | (have H2_ := (Option.bind_some _ _).symm.trans H; with_reducible exact H2_) | with_reducible exact H | (rw [hy173]; exact H) | exact H
                                        have Ny173 := Aside0.mk hy173
                                        clear hy173
                                        by_cases c35 : x9_2.length < 17592186044416
                                        · rw [if_pos c35] at H
                                          have LMc35 := Aside0.mk c35
                                          clear c35
                                          obtain ⟨y175, hy175⟩ : ∃ y_ : List Int, y_ = (x9_2 ++ [rd t156 x11_2]) := ⟨_, rfl⟩
                                          replace H : (spec_RegionConnected.l1 k2 a1 t156 y173 y175 x10_1 (wrap64 (x11_2 + 1))) = some r := by first | (rw [hy175]; with_reducible exact H) | (have H2_ := (Option.bind_some _ _).symm.trans H; rw [hy175]; with_reducible exact H2_) | (have H2_ := (Option.bind_some _ _).symm.trans H; with_reducible exact H2_) | with_reducible exact H | (rw [hy175]; exact H) | exact H
                                          have Ny175 := Aside0.mk hy175
                                          clear hy175
                                          have H' := Aside0.mk H
                                          clear H
                                          have p168 : 0 ≤ (x11_2 : Int) := of_decide_eq_true (by first | (with_reducible assumption) | assumption)
                                          have q168 : x11_2 < (t156.length : Int) := of_decide_eq_true (by first | (with_reducible assumption) | assumption)
                                          obtain ⟨ad168, e168, hx168_0⟩ := Kd.at_int (Kd.R_reads' HO_7.out).2.2 x11_2 p168 q168
                                          obtain rfl : ad162 = ad168 := (by injection e168)
                                          replace p168 := eq_true p168
                                          replace q168 := eq_true q168
                                          obtain ⟨Ao36, co36, eo36⟩ := Kd.R_slice HO_9.out
                                          subst eo36
                                          have p169 : 0 ≤ (x10_1 : Int) := of_decide_eq_true (by first | (with_reducible assumption) | assumption)
                                          have q169 : x10_1 < (x9_2.length : Int) := of_decide_eq_true (by first | (with_reducible assumption) | assumption)
                                          obtain ⟨ad169, e169, hx169_0⟩ := Kd.at_int (Kd.R_reads' HO_9.out).2.2 x10_1 p169 q169
                                          cases e169
                                          replace p169 := eq_true p169
                                          replace q169 := eq_true q169
                                          have p170 : 0 ≤ (x11_2 : Int) := of_decide_eq_true (by first | (with_reducible assumption) | assumption)
                                          have q170 : x11_2 < (t156.length : Int) := of_decide_eq_true (by first | (with_reducible assumption) | assumption)
                                          obtain ⟨ad170, e170, hx170_0⟩ := Kd.at_int (Kd.R_reads' HO_7.out).2.2 x11_2 p170 q170
                                          obtain rfl : ad162 = ad170 := (by injection e170)
                                          replace p170 := eq_true p170
                                          replace q170 := eq_true q170
                                          have p171 : 0 ≤ ((rd t156 x11_2) : Int) := of_decide_eq_true (by first | (with_reducible assumption) | assumption)
                                          have q171 : (rd t156 x11_2) < (x8_2.length : Int) := of_decide_eq_true (by first | (with_reducible assumption) | assumption)
                                          obtain ⟨ad171, e171, hx171_0⟩ := Kd.at_bool (Kd.R_reads' HO_8.out).2.2 (rd t156 x11_2) p171 q171
                                          (try rw [← Nbq31.out] at hx171_0)
                                          obtain rfl : (⟨go13, 0, none⟩ : Addr) = ad171 := (by injection e171)
                                          (first | simp only [add_plain] at hx171_0 | simp only [add_at] at hx171_0 | simp only [Addr.add, Nat.zero_add] at hx171_0 | skip)
                                          replace p171 := eq_true p171
                                          replace q171 := eq_true q171
                                          have p172 : 0 ≤ (x11_2 : Int) := of_decide_eq_true (by first | (with_reducible assumption) | assumption)
                                          have q172 : x11_2 < (t156.length : Int) := of_decide_eq_true (by first | (with_reducible assumption) | assumption)
                                          obtain ⟨ad172, e172, hx172_0⟩ := Kd.at_int (Kd.R_reads' HO_7.out).2.2 x11_2 p172 q172
                                          obtain rfl : ad162 = ad172 := (by injection e172)
                                          replace p172 := eq_true p172
                                          replace q172 := eq_true q172
                                          have p34 : 0 ≤ ((rd t156 x11_2) : Int) := of_decide_eq_true (by first | (with_reducible assumption) | assumption)
                                          have q34 : ((rd t156 x11_2) : Int) < ((x8_2.length : Int) : Int) := of_decide_eq_true (by first | (with_reducible assumption) | assumption)
                                          obtain ⟨hx34_0, hf34_0⟩ := Kd.R_celln false HO_8.out ((rd t156 x11_2) : Int) p34 q34
                                          replace p34 := eq_true p34
                                          replace q34 := eq_true q34
                                          have HP37 := Kd.R_putg HO_8.out ((rd t156 x11_2) : Int) true
                                          go_wp2_with (first | ((with_reducible refine gate_store (t := 4) (p := 102) rfl ?_); (try (rw [drewN_self wr]; generalize hq_ : World.drewN wr _ = wr; have n0_ := Aside0.mk (Kd.R_at hq_ HO_7.out); have n1_ := Aside0.mk (Kd.R_at hq_ HO_8.out); have n2_ := Aside0.mk (Kd.R_at hq_ HO_9.out); have n3_ := Aside0.mk (below_at hq_ HB.out); clear hq_ HO_7 HO_8 HO_9 HB; have HO_7 := n0_; have HO_8 := n1_; have HO_9 := n2_; have HB := n3_; clear n0_ n1_ n2_ n3_; (try (have HP37 := Kd.R_putg HO_8.out ((rd t156 x11_2) : Int) true)); (try (obtain ⟨hx34_0, hf34_0⟩ := Kd.R_celln false HO_8.out ((rd t156 x11_2) : Int) (of_eq_true p34) (of_eq_true q34))))); refine store_event (t := 4) (p := 102) (v := ?vo_w38) (w1 := (wr.setCell ⟨go13, ((rd t156 x11_2) : Int).toNat, none⟩ (.bool true))) ?hg ?ho ?hn ?hr ?_; (case ho => rfl); (case hg => rfl); (case hn => rfl); (case hr => first | (go_simp; done) | (go_simp; rfl)); intro w38 hw; have hg : wr.grownBy w38 (some go13) := (by rw [hw]; exact HP37.2); have hp_ : Kd.R Kd.bool 4 w38 w.heap.size (fun _ => True) (.slice (some ⟨go13, 0, none⟩) x8_2.length co13) y173 := (by rw [hw, Ny173.out]; exact HP37.1); clear HP37; have n0_ := Aside0.mk (Kd.R_over' (v := (.slice (some ⟨go13, 0, none⟩) x8_2.length co13)) (by (with_reducible repeat (first | apply Kd.R_alloc | apply Kd.R_drewN | apply Kd.R_drew)); exact HO_7.out) (Kd.R_typed HO_8.out) (by decide) hg); have n1_ := Aside0.mk (hp_); have n2_ := Aside0.mk (Kd.R_over' (v := (.slice (some ⟨go13, 0, none⟩) x8_2.length co13)) (by (with_reducible repeat (first | apply Kd.R_alloc | apply Kd.R_drewN | apply Kd.R_drew)); exact HO_9.out) (Kd.R_typed HO_8.out) (by decide) hg); have n3_ := Aside0.mk ((by rw [hw]; exact below_set (HB.out) GB13.out : Below w.heap.size w w38)); clear HO_7; clear HO_8; clear HO_9; clear HB; have HO_7 := n0_; have HO_8 := n1_; have HO_9 := n2_; have HB := n3_; clear n0_ n1_ n2_ n3_; clear hg hw hp_; have p174 : 0 ≤ (x11_2 : Int) := of_decide_eq_true (by first | (with_reducible assumption) | assumption); have q174 : x11_2 < (t156.length : Int) := of_decide_eq_true (by first | (with_reducible assumption) | assumption); obtain ⟨ad174, e174, hx174_0⟩ := Kd.at_int (Kd.R_reads' HO_7.out).2.2 x11_2 p174 q174; obtain rfl : ad162 = ad174 := (by injection e174); replace p174 := eq_true p174; replace q174 := eq_true q174) | ((with_reducible refine gate_builtin (b := .append) (xs := #[.tmp 103, .tmp 108]) rfl ?_); at_builtin; refine Kd.R_append (Kd.int .i64) (w0 := w) w.heap.size rfl (.tmp 103) (.tmp 108) 22 3 (.int .i64 0) 8 rfl Try.underlying22 info3 rfl (by decide) (by omega) (.slice (some ad169) x9_2.length co36) x9_2 (rd t156 x11_2) [.int .i64 (rd t156 x11_2)] (fun k_ => some k_ ≠ (.slice (some ad162) t156.length co15 : Value).ownBlock) (fun _ => False) rfl rfl ?aP (fun _ hk => hk.elim) ?aF ?aO ?aB ?aS ?aL ?_; (case aP => exact rfl); (case aB => exact (by repeat (first | (with_reducible first | exact HB.out | apply below_alloc | apply pw_below_drewN | apply below_drew1) | exact HB.out))); (case aF => exact (fun k_ hk => Kd.fresh' (Kd.R_lt (by (with_reducible repeat (first | apply Kd.R_alloc | apply Kd.R_drewN | apply Kd.R_drew)); exact HO_7.out)) k_ hk)); (case aO => exact (by (with_reducible repeat (first | apply Kd.R_alloc | apply Kd.R_drewN | apply Kd.R_drew)); exact HO_9.out)); (case aS => exact (below_size (by repeat (first | (with_reducible first | exact HB.out | apply below_alloc | apply pw_below_drewN | apply below_drew1) | exact HB.out)))); (case aL => have := LMc35.out; omega); intro v176 w39 ho hb hg hat; rw [← Ny175.out] at ho; have n0_ := Aside0.mk (Kd.R_after (ok := (fun _ => True)) (by (with_reducible repeat (first | apply Kd.R_alloc | apply Kd.R_drewN | apply Kd.R_drew)); exact Kd.R_mono HO_7.out (fun _ hk => ⟨trivial, hk⟩)) hg hat); have n1_ := Aside0.mk (Kd.R_over' (by (with_reducible repeat (first | apply Kd.R_alloc | apply Kd.R_drewN | apply Kd.R_drew)); exact HO_8.out) (Kd.R_typed (by (with_reducible repeat (first | apply Kd.R_alloc | apply Kd.R_drewN | apply Kd.R_drew)); exact HO_9.out)) (by decide) hg); have n2_ := Aside0.mk (hb); have n3_ := Aside0.mk (ho); clear HO_7; clear HO_8; clear HB; clear HO_9; have HO_7 := n0_; have HO_8 := n1_; have HB := n2_; have HO177 := n3_; clear n0_ n1_ n2_ n3_; clear ho hb hg hat))
                                          repeat (go_quiet (first | ((with_reducible refine gate_store (t := 4) (p := 102) rfl ?_); (try (rw [drewN_self wr]; generalize hq_ : World.drewN wr _ = wr; have n0_ := Aside0.mk (Kd.R_at hq_ HO_7.out); have n1_ := Aside0.mk (Kd.R_at hq_ HO_8.out); have n2_ := Aside0.mk (Kd.R_at hq_ HO_9.out); have n3_ := Aside0.mk (below_at hq_ HB.out); clear hq_ HO_7 HO_8 HO_9 HB; have HO_7 := n0_; have HO_8 := n1_; have HO_9 := n2_; have HB := n3_; clear n0_ n1_ n2_ n3_; (try (have HP37 := Kd.R_putg HO_8.out ((rd t156 x11_2) : Int) true)); (try (obtain ⟨hx34_0, hf34_0⟩ := Kd.R_celln false HO_8.out ((rd t156 x11_2) : Int) (of_eq_true p34) (of_eq_true q34))))); refine store_event (t := 4) (p := 102) (v := ?vo_w38) (w1 := (wr.setCell ⟨go13, ((rd t156 x11_2) : Int).toNat, none⟩ (.bool true))) ?hg ?ho ?hn ?hr ?_; (case ho => rfl); (case hg => rfl); (case hn => rfl); (case hr => first | (go_simp; done) | (go_simp; rfl)); intro w38 hw; have hg : wr.grownBy w38 (some go13) := (by rw [hw]; exact HP37.2); have hp_ : Kd.R Kd.bool 4 w38 w.heap.size (fun _ => True) (.slice (some ⟨go13, 0, none⟩) x8_2.length co13) y173 := (by rw [hw, Ny173.out]; exact HP37.1); clear HP37; have n0_ := Aside0.mk (Kd.R_over' (v := (.slice (some ⟨go13, 0, none⟩) x8_2.length co13)) (by (with_reducible repeat (first | apply Kd.R_alloc | apply Kd.R_drewN | apply Kd.R_drew)); exact HO_7.out) (Kd.R_typed HO_8.out) (by decide) hg); have n1_ := Aside0.mk (hp_); have n2_ := Aside0.mk (Kd.R_over' (v := (.slice (some ⟨go13, 0, none⟩) x8_2.length co13)) (by (with_reducible repeat (first | apply Kd.R_alloc | apply Kd.R_drewN | apply Kd.R_drew)); exact HO_9.out) (Kd.R_typed HO_8.out) (by decide) hg); have n3_ := Aside0.mk ((by rw [hw]; exact below_set (HB.out) GB13.out : Below w.heap.size w w38)); clear HO_7; clear HO_8; clear HO_9; clear HB; have HO_7 := n0_; have HO_8 := n1_; have HO_9 := n2_; have HB := n3_; clear n0_ n1_ n2_ n3_; clear hg hw hp_; have p174 : 0 ≤ (x11_2 : Int) := of_decide_eq_true (by first | (with_reducible assumption) | assumption); have q174 : x11_2 < (t156.length : Int) := of_decide_eq_true (by first | (with_reducible assumption) | assumption); obtain ⟨ad174, e174, hx174_0⟩ := Kd.at_int (Kd.R_reads' HO_7.out).2.2 x11_2 p174 q174; obtain rfl : ad162 = ad174 := (by injection e174); replace p174 := eq_true p174; replace q174 := eq_true q174) | ((with_reducible refine gate_builtin (b := .append) (xs := #[.tmp 103, .tmp 108]) rfl ?_); at_builtin; refine Kd.R_append (Kd.int .i64) (w0 := w) w.heap.size rfl (.tmp 103) (.tmp 108) 22 3 (.int .i64 0) 8 rfl Try.underlying22 info3 rfl (by decide) (by omega) (.slice (some ad169) x9_2.length co36) x9_2 (rd t156 x11_2) [.int .i64 (rd t156 x11_2)] (fun k_ => some k_ ≠ (.slice (some ad162) t156.length co15 : Value).ownBlock) (fun _ => False) rfl rfl ?aP (fun _ hk => hk.elim) ?aF ?aO ?aB ?aS ?aL ?_; (case aP => exact rfl); (case aB => exact (by repeat (first | (with_reducible first | exact HB.out | apply below_alloc | apply pw_below_drewN | apply below_drew1) | exact HB.out))); (case aF => exact (fun k_ hk => Kd.fresh' (Kd.R_lt (by (with_reducible repeat (first | apply Kd.R_alloc | apply Kd.R_drewN | apply Kd.R_drew)); exact HO_7.out)) k_ hk)); (case aO => exact (by (with_reducible repeat (first | apply Kd.R_alloc | apply Kd.R_drewN | apply Kd.R_drew)); exact HO_9.out)); (case aS => exact (below_size (by repeat (first | (with_reducible first | exact HB.out | apply below_alloc | apply pw_below_drewN | apply below_drew1) | exact HB.out)))); (case aL => have := LMc35.out; omega); intro v176 w39 ho hb hg hat; rw [← Ny175.out] at ho; have n0_ := Aside0.mk (Kd.R_after (ok := (fun _ => True)) (by (with_reducible repeat (first | apply Kd.R_alloc | apply Kd.R_drewN | apply Kd.R_drew)); exact Kd.R_mono HO_7.out (fun _ hk => ⟨trivial, hk⟩)) hg hat); have n1_ := Aside0.mk (Kd.R_over' (by (with_reducible repeat (first | apply Kd.R_alloc | apply Kd.R_drewN | apply Kd.R_drew)); exact HO_8.out) (Kd.R_typed (by (with_reducible repeat (first | apply Kd.R_alloc | apply Kd.R_drewN | apply Kd.R_drew)); exact HO_9.out)) (by decide) hg); have n2_ := Aside0.mk (hb); have n3_ := Aside0.mk (ho); clear HO_7; clear HO_8; clear HB; clear HO_9; have HO_7 := n0_; have HO_8 := n1_; have HB := n2_; have HO177 := n3_; clear n0_ n1_ n2_ n3_; clear ho hb hg hat)); try go_wp2_with (first | ((with_reducible refine gate_store (t := 4) (p := 102) rfl ?_); (try (rw [drewN_self wr]; generalize hq_ : World.drewN wr _ = wr; have n0_ := Aside0.mk (Kd.R_at hq_ HO_7.out); have n1_ := Aside0.mk (Kd.R_at hq_ HO_8.out); have n2_ := Aside0.mk (Kd.R_at hq_ HO_9.out); have n3_ := Aside0.mk (below_at hq_ HB.out); clear hq_ HO_7 HO_8 HO_9 HB; have HO_7 := n0_; have HO_8 := n1_; have HO_9 := n2_; have HB := n3_; clear n0_ n1_ n2_ n3_; (try (have HP37 := Kd.R_putg HO_8.out ((rd t156 x11_2) : Int) true)); (try (obtain ⟨hx34_0, hf34_0⟩ := Kd.R_celln false HO_8.out ((rd t156 x11_2) : Int) (of_eq_true p34) (of_eq_true q34))))); refine store_event (t := 4) (p := 102) (v := ?vo_w38) (w1 := (wr.setCell ⟨go13, ((rd t156 x11_2) : Int).toNat, none⟩ (.bool true))) ?hg ?ho ?hn ?hr ?_; (case ho => rfl); (case hg => rfl); (case hn => rfl); (case hr => first | (go_simp; done) | (go_simp; rfl)); intro w38 hw; have hg : wr.grownBy w38 (some go13) := (by rw [hw]; exact HP37.2); have hp_ : Kd.R Kd.bool 4 w38 w.heap.size (fun _ => True) (.slice (some ⟨go13, 0, none⟩) x8_2.length co13) y173 := (by rw [hw, Ny173.out]; exact HP37.1); clear HP37; have n0_ := Aside0.mk (Kd.R_over' (v := (.slice (some ⟨go13, 0, none⟩) x8_2.length co13)) (by (with_reducible repeat (first | apply Kd.R_alloc | apply Kd.R_drewN | apply Kd.R_drew)); exact HO_7.out) (Kd.R_typed HO_8.out) (by decide) hg); have n1_ := Aside0.mk (hp_); have n2_ := Aside0.mk (Kd.R_over' (v := (.slice (some ⟨go13, 0, none⟩) x8_2.length co13)) (by (with_reducible repeat (first | apply Kd.R_alloc | apply Kd.R_drewN | apply Kd.R_drew)); exact HO_9.out) (Kd.R_typed HO_8.out) (by decide) hg); have n3_ := Aside0.mk ((by rw [hw]; exact below_set (HB.out) GB13.out : Below w.heap.size w w38)); clear HO_7; clear HO_8; clear HO_9; clear HB; have HO_7 := n0_; have HO_8 := n1_; have HO_9 := n2_; have HB := n3_; clear n0_ n1_ n2_ n3_; clear hg hw hp_; have p174 : 0 ≤ (x11_2 : Int) := of_decide_eq_true (by first | (with_reducible assumption) | assumption); have q174 : x11_2 < (t156.length : Int) := of_decide_eq_true (by first | (with_reducible assumption) | assumption); obtain ⟨ad174, e174, hx174_0⟩ := Kd.at_int (Kd.R_reads' HO_7.out).2.2 x11_2 p174 q174; obtain rfl : ad162 = ad174 := (by injection e174); replace p174 := eq_true p174; replace q174 := eq_true q174) | ((with_reducible refine gate_builtin (b := .append) (xs := #[.tmp 103, .tmp 108]) rfl ?_); at_builtin; refine Kd.R_append (Kd.int .i64) (w0 := w) w.heap.size rfl (.tmp 103) (.tmp 108) 22 3 (.int .i64 0) 8 rfl Try.underlying22 info3 rfl (by decide) (by omega) (.slice (some ad169) x9_2.length co36) x9_2 (rd t156 x11_2) [.int .i64 (rd t156 x11_2)] (fun k_ => some k_ ≠ (.slice (some ad162) t156.length co15 : Value).ownBlock) (fun _ => False) rfl rfl ?aP (fun _ hk => hk.elim) ?aF ?aO ?aB ?aS ?aL ?_; (case aP => exact rfl); (case aB => exact (by repeat (first | (with_reducible first | exact HB.out | apply below_alloc | apply pw_below_drewN | apply below_drew1) | exact HB.out))); (case aF => exact (fun k_ hk => Kd.fresh' (Kd.R_lt (by (with_reducible repeat (first | apply Kd.R_alloc | apply Kd.R_drewN | apply Kd.R_drew)); exact HO_7.out)) k_ hk)); (case aO => exact (by (with_reducible repeat (first | apply Kd.R_alloc | apply Kd.R_drewN | apply Kd.R_drew)); exact HO_9.out)); (case aS => exact (below_size (by repeat (first | (with_reducible first | exact HB.out | apply below_alloc | apply pw_below_drewN | apply below_drew1) | exact HB.out)))); (case aL => have := LMc35.out; omega); intro v176 w39 ho hb hg hat; rw [← Ny175.out] at ho; have n0_ := Aside0.mk (Kd.R_after (ok := (fun _ => True)) (by (with_reducible repeat (first | apply Kd.R_alloc | apply Kd.R_drewN | apply Kd.R_drew)); exact Kd.R_mono HO_7.out (fun _ hk => ⟨trivial, hk⟩)) hg hat); have n1_ := Aside0.mk (Kd.R_over' (by (with_reducible repeat (first | apply Kd.R_alloc | apply Kd.R_drewN | apply Kd.R_drew)); exact HO_8.out) (Kd.R_typed (by (with_reducible repeat (first | apply Kd.R_alloc | apply Kd.R_drewN | apply Kd.R_drew)); exact HO_9.out)) (by decide) hg); have n2_ := Aside0.mk (hb); have n3_ := Aside0.mk (ho); clear HO_7; clear HO_8; clear HB; clear HO_9; have HO_7 := n0_; have HO_8 := n1_; have HB := n2_; have HO177 := n3_; clear n0_ n1_ n2_ n3_; clear ho hb hg hat)))
                                          (try simp only [← hl8_2])
                                          go_roundg k2
                                          case measure => have := HK1.out; have := HK2.out; omega
                                          case rel => exact ⟨(y173), (y175), (wrap64 (x11_2 + 1)), (by first | rfl | (simp; done) | (simp [*]; done)), H', ⟨by have := HK1.out; have := HK2.out; omega⟩, ⟨by (try simp only [hl8_1]); (try simp only [hl8_2]); (with_reducible repeat (first | apply Kd.R_alloc | apply Kd.R_drewN | apply Kd.R_drew)); exact Kd.R_mono HO_7.out (fun _ hk => hk.2)⟩, ⟨by (try simp only [hl8_1]); (try simp only [hl8_2]); (with_reducible repeat (first | apply Kd.R_alloc | apply Kd.R_drewN | apply Kd.R_drew)); exact HO_8.out⟩, ⟨by (try simp only [hl8_1]); (try simp only [hl8_2]); (with_reducible repeat (first | apply Kd.R_alloc | apply Kd.R_drewN | apply Kd.R_drew)); exact HO177.out⟩, ⟨by repeat (first | (with_reducible first | exact HB.out | apply below_alloc | apply pw_below_drewN | apply below_drew1) | exact HB.out)⟩⟩
                                        · rw [if_neg c35] at H
                                          exact absurd H (by simp)
                                    · rw [if_neg c30] at H
                                      exact absurd H (by simp)
                                  · rw [if_neg c29] at H
                                    exact absurd H (by simp)
                                · rw [if_neg c28] at H
                                  have c28b0 : ((wrap64 ((rd t156 x11_2) - (rd x9_2 x10_1))) == a1) = false := beq_eq_false_iff_ne.mpr c28
                                  have c28b1 : ((wrap64 ((rd t156 x11_2) - (rd x9_2 x10_1))) != a1) = true := bne_iff_ne.mpr c28
                                  by_cases c40 : (wrap64 ((rd t156 x11_2) - (rd x9_2 x10_1))) = (wrap64 (-a1))
                                  · rw [if_pos c40] at H
                                    have c40b0 : ((wrap64 ((rd t156 x11_2) - (rd x9_2 x10_1))) == (wrap64 (-a1))) = true := beq_iff_eq.mpr c40
                                    have c40b1 : ((wrap64 ((rd t156 x11_2) - (rd x9_2 x10_1))) != (wrap64 (-a1))) = false := bne_eq_false_iff_eq.mpr c40
                                    clear c40
                                    by_cases c41 : 0 ≤ (rd t156 x11_2)
                                    · rw [if_pos c41] at H
                                      have c41b0 : decide (0 ≤ (rd t156 x11_2)) = true := decide_eq_true c41
                                      clear c41
                                      by_cases c42 : (rd t156 x11_2) < (x8_2.length : Int)
                                      · rw [if_pos c42] at H
                                        have c42b0 : decide ((rd t156 x11_2) < (x8_2.length : Int)) = true := decide_eq_true c42
                                        clear c42
                                        obtain ⟨bq43, hbq43⟩ : ∃ b_ : Bool, b_ = (rdOf false x8_2 (rd t156 x11_2)) := ⟨_, rfl⟩
                                        replace H : (if (bq43 = true) then (spec_RegionConnected.l1 k2 a1 t156 x8_2 x9_2 x10_1 (wrap64 (x11_2 + 1))) else (if x9_2.length < 17592186044416 then (spec_RegionConnected.l1 k2 a1 t156 (x8_2.set ((rd t156 x11_2) : Int).toNat true) (x9_2 ++ [rd t156 x11_2]) x10_1 (wrap64 (x11_2 + 1))) else (none))) = some r := by rw [← hbq43] at H; exact H
                                        have Nbq43 := Aside0.mk hbq43
                                        clear hbq43
                                        by_cases c44 : (bq43 = true)
                                        · subst c44
                                          have H1 : (spec_RegionConnected.l1 k2 a1 t156 x8_2 x9_2 x10_1 (wrap64 (x11_2 + 1))) = some r := by rw [if_pos rfl] at H; exact H
                                          clear H
                                          have H := H1
                                          clear H1
                                          have H' := Aside0.mk H
                                          clear H
                                          have p168 : 0 ≤ (x11_2 : Int) := of_decide_eq_true (by first | (with_reducible assumption) | assumption)
                                          have q168 : x11_2 < (t156.length : Int) := of_decide_eq_true (by first | (with_reducible assumption) | assumption)
                                          obtain ⟨ad168, e168, hx168_0⟩ := Kd.at_int (Kd.R_reads' HO_7.out).2.2 x11_2 p168 q168
                                          obtain rfl : ad162 = ad168 := (by injection e168)
                                          replace p168 := eq_true p168
                                          replace q168 := eq_true q168
                                          obtain ⟨Ao45, co45, eo45⟩ := Kd.R_slice HO_9.out
                                          subst eo45
                                          have p169 : 0 ≤ (x10_1 : Int) := of_decide_eq_true (by first | (with_reducible assumption) | assumption)
                                          have q169 : x10_1 < (x9_2.length : Int) := of_decide_eq_true (by first | (with_reducible assumption) | assumption)
                                          obtain ⟨ad169, e169, hx169_0⟩ := Kd.at_int (Kd.R_reads' HO_9.out).2.2 x10_1 p169 q169
                                          cases e169
                                          replace p169 := eq_true p169
                                          replace q169 := eq_true q169
                                          have p178 : 0 ≤ (x11_2 : Int) := of_decide_eq_true (by first | (with_reducible assumption) | assumption)
                                          have q178 : x11_2 < (t156.length : Int) := of_decide_eq_true (by first | (with_reducible assumption) | assumption)
                                          obtain ⟨ad178, e178, hx178_0⟩ := Kd.at_int (Kd.R_reads' HO_7.out).2.2 x11_2 p178 q178
                                          obtain rfl : ad162 = ad178 := (by injection e178)
                                          replace p178 := eq_true p178
                                          replace q178 := eq_true q178
                                          have p179 : 0 ≤ ((rd t156 x11_2) : Int) := of_decide_eq_true (by first | (with_reducible assumption) | assumption)
                                          have q179 : (rd t156 x11_2) < (x8_2.length : Int) := of_decide_eq_true (by first | (with_reducible assumption) | assumption)
                                          obtain ⟨ad179, e179, hx179_0⟩ := Kd.at_bool (Kd.R_reads' HO_8.out).2.2 (rd t156 x11_2) p179 q179
                                          (try rw [← Nbq43.out] at hx179_0)
                                          obtain rfl : (⟨go13, 0, none⟩ : Addr) = ad179 := (by injection e179)
                                          (first | simp only [add_plain] at hx179_0 | simp only [add_at] at hx179_0 | simp only [Addr.add, Nat.zero_add] at hx179_0 | skip)
                                          replace p179 := eq_true p179
                                          replace q179 := eq_true q179
                                          go_wp2
                                          repeat (go_quiet (fail); try go_wp2)
                                          (try simp only [← hl8_2])
                                          go_roundg k2
                                          case measure => have := HK1.out; have := HK2.out; omega
                                          case rel => exact ⟨(x8_2), (x9_2), (wrap64 (x11_2 + 1)), (by first | rfl | (simp; done) | (simp [*]; done)), H', ⟨by have := HK1.out; have := HK2.out; omega⟩, ⟨by (try simp only [hl8_1]); (try simp only [hl8_2]); (with_reducible repeat (first | apply Kd.R_alloc | apply Kd.R_drewN | apply Kd.R_drew)); exact HO_7.out⟩, ⟨by (try simp only [hl8_1]); (try simp only [hl8_2]); (with_reducible repeat (first | apply Kd.R_alloc | apply Kd.R_drewN | apply Kd.R_drew)); exact HO_8.out⟩, ⟨by (try simp only [hl8_1]); (try simp only [hl8_2]); (with_reducible repeat (first | apply Kd.R_alloc | apply Kd.R_drewN | apply Kd.R_drew)); exact HO_9.out⟩, ⟨by repeat (first | (with_reducible first | exact HB.out | apply below_alloc | apply pw_below_drewN | apply below_drew1) | exact HB.out)⟩⟩
                                        · replace c44 := Bool.eq_false_iff.mpr c44
                                          subst c44
                                          have H1 : (if x9_2.length < 17592186044416 then (spec_RegionConnected.l1 k2 a1 t156 (x8_2.set ((rd t156 x11_2) : Int).toNat true) (x9_2 ++ [rd t156 x11_2]) x10_1 (wrap64 (x11_2 + 1))) else (none)) = some r := by rw [if_neg (show ¬ (false = true) by decide)] at H; exact H
                                          clear H
                                          have H := H1
                                          clear H1
                                          obtain ⟨y181, hy181⟩ : ∃ y_ : List Bool, y_ = (x8_2.set ((rd t156 x11_2) : Int).toNat true) := ⟨_, rfl⟩
                                          replace H : (if x9_2.length < 17592186044416 then (spec_RegionConnected.l1 k2 a1 t156 y181 (x9_2 ++ [rd t156 x11_2]) x10_1 (wrap64 (x11_2 + 1))) else (none)) = some r := by first | (rw [hy181]; with_reducible exact H) | (have H2_ := (Option.bind_some _ _).symm.trans H; rw [hy181]; with_reducible exact H2_) | (have H2_ := (Option.bind_some _ _).symm.trans H; with_reducible exact H2_) | with_reducible exact H | (rw [hy181]; exact H) | exact H
                                          have Ny181 := Aside0.mk hy181
                                          clear hy181
                                          by_cases c47 : x9_2.length < 17592186044416
                                          · rw [if_pos c47] at H
                                            have LMc47 := Aside0.mk c47
                                            clear c47
                                            obtain ⟨y183, hy183⟩ : ∃ y_ : List Int, y_ = (x9_2 ++ [rd t156 x11_2]) := ⟨_, rfl⟩
                                            replace H : (spec_RegionConnected.l1 k2 a1 t156 y181 y183 x10_1 (wrap64 (x11_2 + 1))) = some r := by first | (rw [hy183]; with_reducible exact H) | (have H2_ := (Option.bind_some _ _).symm.trans H; rw [hy183]; with_reducible exact H2_) | (have H2_ := (Option.bind_some _ _).symm.trans H; with_reducible exact H2_) | with_reducible exact H | (rw [hy183]; exact H) | exact H
                                            have Ny183 := Aside0.mk hy183
                                            clear hy183
                                            have H' := Aside0.mk H
                                            clear H
                                            have p168 : 0 ≤ (x11_2 : Int) := of_decide_eq_true (by first | (with_reducible assumption) | assumption)
                                            have q168 : x11_2 < (t156.length : Int) := of_decide_eq_true (by first | (with_reducible assumption) | assumption)
                                            obtain ⟨ad168, e168, hx168_0⟩ := Kd.at_int (Kd.R_reads' HO_7.out).2.2 x11_2 p168 q168
                                            obtain rfl : ad162 = ad168 := (by injection e168)
                                            replace p168 := eq_true p168
                                            replace q168 := eq_true q168
                                            obtain ⟨Ao48, co48, eo48⟩ := Kd.R_slice HO_9.out
                                            subst eo48
                                            have p169 : 0 ≤ (x10_1 : Int) := of_decide_eq_true (by first | (with_reducible assumption) | assumption)
                                            have q169 : x10_1 < (x9_2.length : Int) := of_decide_eq_true (by first | (with_reducible assumption) | assumption)
                                            obtain ⟨ad169, e169, hx169_0⟩ := Kd.at_int (Kd.R_reads' HO_9.out).2.2 x10_1 p169 q169
                                            cases e169
                                            replace p169 := eq_true p169
                                            replace q169 := eq_true q169
                                            have p178 : 0 ≤ (x11_2 : Int) := of_decide_eq_true (by first | (with_reducible assumption) | assumption)
                                            have q178 : x11_2 < (t156.length : Int) := of_decide_eq_true (by first | (with_reducible assumption) | assumption)
                                            obtain ⟨ad178, e178, hx178_0⟩ := Kd.at_int (Kd.R_reads' HO_7.out).2.2 x11_2 p178 q178
                                            obtain rfl : ad162 = ad178 := (by injection e178)
                                            replace p178 := eq_true p178
                                            replace q178 := eq_true q178
                                            have p179 : 0 ≤ ((rd t156 x11_2) : Int) := of_decide_eq_true (by first | (with_reducible assumption) | assumption)
                                            have q179 : (rd t156 x11_2) < (x8_2.length : Int) := of_decide_eq_true (by first | (with_reducible assumption) | assumption)
                                            obtain ⟨ad179, e179, hx179_0⟩ := Kd.at_bool (Kd.R_reads' HO_8.out).2.2 (rd t156 x11_2) p179 q179
                                            (try rw [← Nbq43.out] at hx179_0)
                                            obtain rfl : (⟨go13, 0, none⟩ : Addr) = ad179 := (by injection e179)
                                            (first | simp only [add_plain] at hx179_0 | simp only [add_at] at hx179_0 | simp only [Addr.add, Nat.zero_add] at hx179_0 | skip)
                                            replace p179 := eq_true p179
                                            replace q179 := eq_true q179
                                            have p180 : 0 ≤ (x11_2 : Int) := of_decide_eq_true (by first | (with_reducible assumption) | assumption)
                                            have q180 : x11_2 < (t156.length : Int) := of_decide_eq_true (by first | (with_reducible assumption) | assumption)
                                            obtain ⟨ad180, e180, hx180_0⟩ := Kd.at_int (Kd.R_reads' HO_7.out).2.2 x11_2 p180 q180
                                            obtain rfl : ad162 = ad180 := (by injection e180)
                                            replace p180 := eq_true p180
                                            replace q180 := eq_true q180
                                            have p46 : 0 ≤ ((rd t156 x11_2) : Int) := of_decide_eq_true (by first | (with_reducible assumption) | assumption)
                                            have q46 : ((rd t156 x11_2) : Int) < ((x8_2.length : Int) : Int) := of_decide_eq_true (by first | (with_reducible assumption) | assumption)
                                            obtain ⟨hx46_0, hf46_0⟩ := Kd.R_celln false HO_8.out ((rd t156 x11_2) : Int) p46 q46
                                            replace p46 := eq_true p46
                                            replace q46 := eq_true q46
                                            have HP49 := Kd.R_putg HO_8.out ((rd t156 x11_2) : Int) true
                                            go_wp2_with (first | ((with_reducible refine gate_store (t := 4) (p := 102) rfl ?_); (try (rw [drewN_self wr]; generalize hq_ : World.drewN wr _ = wr; have n0_ := Aside0.mk (Kd.R_at hq_ HO_7.out); have n1_ := Aside0.mk (Kd.R_at hq_ HO_8.out); have n2_ := Aside0.mk (Kd.R_at hq_ HO_9.out); have n3_ := Aside0.mk (below_at hq_ HB.out); clear hq_ HO_7 HO_8 HO_9 HB; have HO_7 := n0_; have HO_8 := n1_; have HO_9 := n2_; have HB := n3_; clear n0_ n1_ n2_ n3_; (try (have HP49 := Kd.R_putg HO_8.out ((rd t156 x11_2) : Int) true)); (try (obtain ⟨hx46_0, hf46_0⟩ := Kd.R_celln false HO_8.out ((rd t156 x11_2) : Int) (of_eq_true p46) (of_eq_true q46))))); refine store_event (t := 4) (p := 102) (v := ?vo_w50) (w1 := (wr.setCell ⟨go13, ((rd t156 x11_2) : Int).toNat, none⟩ (.bool true))) ?hg ?ho ?hn ?hr ?_; (case ho => rfl); (case hg => rfl); (case hn => rfl); (case hr => first | (go_simp; done) | (go_simp; rfl)); intro w50 hw; have hg : wr.grownBy w50 (some go13) := (by rw [hw]; exact HP49.2); have hp_ : Kd.R Kd.bool 4 w50 w.heap.size (fun _ => True) (.slice (some ⟨go13, 0, none⟩) x8_2.length co13) y181 := (by rw [hw, Ny181.out]; exact HP49.1); clear HP49; have n0_ := Aside0.mk (Kd.R_over' (v := (.slice (some ⟨go13, 0, none⟩) x8_2.length co13)) (by (with_reducible repeat (first | apply Kd.R_alloc | apply Kd.R_drewN | apply Kd.R_drew)); exact HO_7.out) (Kd.R_typed HO_8.out) (by decide) hg); have n1_ := Aside0.mk (hp_); have n2_ := Aside0.mk (Kd.R_over' (v := (.slice (some ⟨go13, 0, none⟩) x8_2.length co13)) (by (with_reducible repeat (first | apply Kd.R_alloc | apply Kd.R_drewN | apply Kd.R_drew)); exact HO_9.out) (Kd.R_typed HO_8.out) (by decide) hg); have n3_ := Aside0.mk ((by rw [hw]; exact below_set (HB.out) GB13.out : Below w.heap.size w w50)); clear HO_7; clear HO_8; clear HO_9; clear HB; have HO_7 := n0_; have HO_8 := n1_; have HO_9 := n2_; have HB := n3_; clear n0_ n1_ n2_ n3_; clear hg hw hp_; have p182 : 0 ≤ (x11_2 : Int) := of_decide_eq_true (by first | (with_reducible assumption) | assumption); have q182 : x11_2 < (t156.length : Int) := of_decide_eq_true (by first | (with_reducible assumption) | assumption); obtain ⟨ad182, e182, hx182_0⟩ := Kd.at_int (Kd.R_reads' HO_7.out).2.2 x11_2 p182 q182; obtain rfl : ad162 = ad182 := (by injection e182); replace p182 := eq_true p182; replace q182 := eq_true q182) | ((with_reducible refine gate_builtin (b := .append) (xs := #[.tmp 103, .tmp 108]) rfl ?_); at_builtin; refine Kd.R_append (Kd.int .i64) (w0 := w) w.heap.size rfl (.tmp 103) (.tmp 108) 22 3 (.int .i64 0) 8 rfl Try.underlying22 info3 rfl (by decide) (by omega) (.slice (some ad169) x9_2.length co48) x9_2 (rd t156 x11_2) [.int .i64 (rd t156 x11_2)] (fun k_ => some k_ ≠ (.slice (some ad162) t156.length co15 : Value).ownBlock) (fun _ => False) rfl rfl ?aP (fun _ hk => hk.elim) ?aF ?aO ?aB ?aS ?aL ?_; (case aP => exact rfl); (case aB => exact (by repeat (first | (with_reducible first | exact HB.out | apply below_alloc | apply pw_below_drewN | apply below_drew1) | exact HB.out))); (case aF => exact (fun k_ hk => Kd.fresh' (Kd.R_lt (by (with_reducible repeat (first | apply Kd.R_alloc | apply Kd.R_drewN | apply Kd.R_drew)); exact HO_7.out)) k_ hk)); (case aO => exact (by (with_reducible repeat (first | apply Kd.R_alloc | apply Kd.R_drewN | apply Kd.R_drew)); exact HO_9.out)); (case aS => exact (below_size (by repeat (first | (with_reducible first | exact HB.out | apply below_alloc | apply pw_below_drewN | apply below_drew1) | exact HB.out)))); (case aL => have := LMc47.out; omega); intro v184 w51 ho hb hg hat; rw [← Ny183.out] at ho; have n0_ := Aside0.mk (Kd.R_after (ok := (fun _ => True)) (by (with_reducible repeat (first | apply Kd.R_alloc | apply Kd.R_drewN | apply Kd.R_drew)); exact Kd.R_mono HO_7.out (fun _ hk => ⟨trivial, hk⟩)) hg hat); have n1_ := Aside0.mk (Kd.R_over' (by (with_reducible repeat (first | apply Kd.R_alloc | apply Kd.R_drewN | apply Kd.R_drew)); exact HO_8.out) (Kd.R_typed (by (with_reducible repeat (first | apply Kd.R_alloc | apply Kd.R_drewN | apply Kd.R_drew)); exact HO_9.out)) (by decide) hg); have n2_ := Aside0.mk (hb); have n3_ := Aside0.mk (ho); clear HO_7; clear HO_8; clear HB; clear HO_9; have HO_7 := n0_; have HO_8 := n1_; have HB := n2_; have HO185 := n3_; clear n0_ n1_ n2_ n3_; clear ho hb hg hat))
                                            repeat (go_quiet (first | ((with_reducible refine gate_store (t := 4) (p := 102) rfl ?_); (try (rw [drewN_self wr]; generalize hq_ : World.drewN wr _ = wr; have n0_ := Aside0.mk (Kd.R_at hq_ HO_7.out); have n1_ := Aside0.mk (Kd.R_at hq_ HO_8.out); have n2_ := Aside0.mk (Kd.R_at hq_ HO_9.out); have n3_ := Aside0.mk (below_at hq_ HB.out); clear hq_ HO_7 HO_8 HO_9 HB; have HO_7 := n0_; have HO_8 := n1_; have HO_9 := n2_; have HB := n3_; clear n0_ n1_ n2_ n3_; (try (have HP49 := Kd.R_putg HO_8.out ((rd t156 x11_2) : Int) true)); (try (obtain ⟨hx46_0, hf46_0⟩ := Kd.R_celln false HO_8.out ((rd t156 x11_2) : Int) (of_eq_true p46) (of_eq_true q46))))); refine store_event (t := 4) (p := 102) (v := ?vo_w50) (w1 := (wr.setCell ⟨go13, ((rd t156 x11_2) : Int).toNat, none⟩ (.bool true))) ?hg ?ho ?hn ?hr ?_; (case ho => rfl); (case hg => rfl); (case hn => rfl); (case hr => first | (go_simp; done) | (go_simp; rfl)); intro w50 hw; have hg : wr.grownBy w50 (some go13) := (by rw [hw]; exact HP49.2); have hp_ : Kd.R Kd.bool 4 w50 w.heap.size (fun _ => True) (.slice (some ⟨go13, 0, none⟩) x8_2.length co13) y181 := (by rw [hw, Ny181.out]; exact HP49.1); clear HP49; have n0_ := Aside0.mk (Kd.R_over' (v := (.slice (some ⟨go13, 0, none⟩) x8_2.length co13)) (by (with_reducible repeat (first | apply Kd.R_alloc | apply Kd.R_drewN | apply Kd.R_drew)); exact HO_7.out) (Kd.R_typed HO_8.out) (by decide) hg); have n1_ := Aside0.mk (hp_); have n2_ := Aside0.mk (Kd.R_over' (v := (.slice (some ⟨go13, 0, none⟩) x8_2.length co13)) (by (with_reducible repeat (first | apply Kd.R_alloc | apply Kd.R_drewN | apply Kd.R_drew)); exact HO_9.out) (Kd.R_typed HO_8.out) (by decide) hg); have n3_ := Aside0.mk ((by rw [hw]; exact below_set (HB.out) GB13.out : Below w.heap.size w w50)); clear HO_7; clear HO_8; clear HO_9; clear HB; have HO_7 := n0_; have HO_8 := n1_; have HO_9 := n2_; have HB := n3_; clear n0_ n1_ n2_ n3_; clear hg hw hp_; have p182 : 0 ≤ (x11_2 : Int) := of_decide_eq_true (by first | (with_reducible assumption) | assumption); have q182 : x11_2 < (t156.length : Int) := of_decide_eq_true (by first | (with_reducible assumption) | assumption); obtain ⟨ad182, e182, hx182_0⟩ := Kd.at_int (Kd.R_reads' HO_7.out).2.2 x11_2 p182 q182; obtain rfl : ad162 = ad182 := (by injection e182); replace p182 := eq_true p182; replace q182 := eq_true q182) | ((with_reducible refine gate_builtin (b := .append) (xs := #[.tmp 103, .tmp 108]) rfl ?_); at_builtin; refine Kd.R_append (Kd.int .i64) (w0 := w) w.heap.size rfl (.tmp 103) (.tmp 108) 22 3 (.int .i64 0) 8 rfl Try.underlying22 info3 rfl (by decide) (by omega) (.slice (some ad169) x9_2.length co48) x9_2 (rd t156 x11_2) [.int .i64 (rd t156 x11_2)] (fun k_ => some k_ ≠ (.slice (some ad162) t156.length co15 : Value).ownBlock) (fun _ => False) rfl rfl ?aP (fun _ hk => hk.elim) ?aF ?aO ?aB ?aS ?aL ?_; (case aP => exact rfl); (case aB => exact (by repeat (first | (with_reducible first | exact HB.out | apply below_alloc | apply pw_below_drewN | apply below_drew1) | exact HB.out))); (case aF => exact (fun k_ hk => Kd.fresh' (Kd.R_lt (by (with_reducible repeat (first | apply Kd.R_alloc | apply Kd.R_drewN | apply Kd.R_drew)); exact HO_7.out)) k_ hk)); (case aO => exact (by (with_reducible repeat (first | apply Kd.R_alloc | apply Kd.R_drewN | apply Kd.R_drew)); exact HO_9.out)); (case aS => exact (below_size (by repeat (first | (with_reducible first | exact HB.out | apply below_alloc | apply pw_below_drewN | apply below_drew1) | exact HB.out)))); (case aL => have := LMc47.out; omega); intro v184 w51 ho hb hg hat; rw [← Ny183.out] at ho; have n0_ := Aside0.mk (Kd.R_after (ok := (fun _ => True)) (by (with_reducible repeat (first | apply Kd.R_alloc | apply Kd.R_drewN | apply Kd.R_drew)); exact Kd.R_mono HO_7.out (fun _ hk => ⟨trivial, hk⟩)) hg hat); have n1_ := Aside0.mk (Kd.R_over' (by (with_reducible repeat (first | apply Kd.R_alloc | apply Kd.R_drewN | apply Kd.R_drew)); exact HO_8.out) (Kd.R_typed (by (with_reducible repeat (first | apply Kd.R_alloc | apply Kd.R_drewN | apply Kd.R_drew)); exact HO_9.out)) (by decide) hg); have n2_ := Aside0.mk (hb); have n3_ := Aside0.mk (ho); clear HO_7; clear HO_8; clear HB; clear HO_9; have HO_7 := n0_; have HO_8 := n1_; have HB := n2_; have HO185 := n3_; clear n0_ n1_ n2_ n3_; clear ho hb hg hat)); try go_wp2_with (first | ((with_reducible refine gate_store (t := 4) (p := 102) rfl ?_); (try (rw [drewN_self wr]; generalize hq_ : World.drewN wr _ = wr; have n0_ := Aside0.mk (Kd.R_at hq_ HO_7.out); have n1_ := Aside0.mk (Kd.R_at hq_ HO_8.out); have n2_ := Aside0.mk (Kd.R_at hq_ HO_9.out); have n3_ := Aside0.mk (below_at hq_ HB.out); clear hq_ HO_7 HO_8 HO_9 HB; have HO_7 := n0_; have HO_8 := n1_; have HO_9 := n2_; have HB := n3_; clear n0_ n1_ n2_ n3_; (try (have HP49 := Kd.R_putg HO_8.out ((rd t156 x11_2) : Int) true)); (try (obtain ⟨hx46_0, hf46_0⟩ := Kd.R_celln false HO_8.out ((rd t156 x11_2) : Int) (of_eq_true p46) (of_eq_true q46))))); refine store_event (t := 4) (p := 102) (v := ?vo_w50) (w1 := (wr.setCell ⟨go13, ((rd t156 x11_2) : Int).toNat, none⟩ (.bool true))) ?hg ?ho ?hn ?hr ?_; (case ho => rfl); (case hg => rfl); (case hn => rfl); (case hr => first | (go_simp; done) | (go_simp; rfl)); intro w50 hw; have hg : wr.grownBy w50 (some go13) := (by rw [hw]; exact HP49.2); have hp_ : Kd.R Kd.bool 4 w50 w.heap.size (fun _ => True) (.slice (some ⟨go13, 0, none⟩) x8_2.length co13) y181 := (by rw [hw, Ny181.out]; exact HP49.1); clear HP49; have n0_ := Aside0.mk (Kd.R_over' (v := (.slice (some ⟨go13, 0, none⟩) x8_2.length co13)) (by (with_reducible repeat (first | apply Kd.R_alloc | apply Kd.R_drewN | apply Kd.R_drew)); exact HO_7.out) (Kd.R_typed HO_8.out) (by decide) hg); have n1_ := Aside0.mk (hp_); have n2_ := Aside0.mk (Kd.R_over' (v := (.slice (some ⟨go13, 0, none⟩) x8_2.length co13)) (by (with_reducible repeat (first | apply Kd.R_alloc | apply Kd.R_drewN | apply Kd.R_drew)); exact HO_9.out) (Kd.R_typed HO_8.out) (by decide) hg); have n3_ := Aside0.mk ((by rw [hw]; exact below_set (HB.out) GB13.out : Below w.heap.size w w50)); clear HO_7; clear HO_8; clear HO_9; clear HB; have HO_7 := n0_; have HO_8 := n1_; have HO_9 := n2_; have HB := n3_; clear n0_ n1_ n2_ n3_; clear hg hw hp_; have p182 : 0 ≤ (x11_2 : Int) := of_decide_eq_true (by first | (with_reducible assumption) | assumption); have q182 : x11_2 < (t156.length : Int) := of_decide_eq_true (by first | (with_reducible assumption) | assumption); obtain ⟨ad182, e182, hx182_0⟩ := Kd.at_int (Kd.R_reads' HO_7.out).2.2 x11_2 p182 q182; obtain rfl : ad162 = ad182 := (by injection e182); replace p182 := eq_true p182; replace q182 := eq_true q182) | ((with_reducible refine gate_builtin (b := .append) (xs := #[.tmp 103, .tmp 108]) rfl ?_); at_builtin; refine Kd.R_append (Kd.int .i64) (w0 := w) w.heap.size rfl (.tmp 103) (.tmp 108) 22 3 (.int .i64 0) 8 rfl Try.underlying22 info3 rfl (by decide) (by omega) (.slice (some ad169) x9_2.length co48) x9_2 (rd t156 x11_2) [.int .i64 (rd t156 x11_2)] (fun k_ => some k_ ≠ (.slice (some ad162) t156.length co15 : Value).ownBlock) (fun _ => False) rfl rfl ?aP (fun _ hk => hk.elim) ?aF ?aO ?aB ?aS ?aL ?_; (case aP => exact rfl); (case aB => exact (by repeat (first | (with_reducible first | exact HB.out | apply below_alloc | apply pw_below_drewN | apply below_drew1) | exact HB.out))); (case aF => exact (fun k_ hk => Kd.fresh' (Kd.R_lt (by (with_reducible repeat (first | apply Kd.R_alloc | apply Kd.R_drewN | apply Kd.R_drew)); exact HO_7.out)) k_ hk)); (case aO => exact (by (with_reducible repeat (first | apply Kd.R_alloc | apply Kd.R_drewN | apply Kd.R_drew)); exact HO_9.out)); (case aS => exact (below_size (by repeat (first | (with_reducible first | exact HB.out | apply below_alloc | apply pw_below_drewN | apply below_drew1) | exact HB.out)))); (case aL => have := LMc47.out; omega); intro v184 w51 ho hb hg hat; rw [← Ny183.out] at ho; have n0_ := Aside0.mk (Kd.R_after (ok := (fun _ => True)) (by (with_reducible repeat (first | apply Kd.R_alloc | apply Kd.R_drewN | apply Kd.R_drew)); exact Kd.R_mono HO_7.out (fun _ hk => ⟨trivial, hk⟩)) hg hat); have n1_ := Aside0.mk (Kd.R_over' (by (with_reducible repeat (first | apply Kd.R_alloc | apply Kd.R_drewN | apply Kd.R_drew)); exact HO_8.out) (Kd.R_typed (by (with_reducible repeat (first | apply Kd.R_alloc | apply Kd.R_drewN | apply Kd.R_drew)); exact HO_9.out)) (by decide) hg); have n2_ := Aside0.mk (hb); have n3_ := Aside0.mk (ho); clear HO_7; clear HO_8; clear HB; clear HO_9; have HO_7 := n0_; have HO_8 := n1_; have HB := n2_; have HO185 := n3_; clear n0_ n1_ n2_ n3_; clear ho hb hg hat)))
                                            (try simp only [← hl8_2])
                                            go_roundg k2
                                            case measure => have := HK1.out; have := HK2.out; omega
                                            case rel => exact ⟨(y181), (y183), (wrap64 (x11_2 + 1)), (by first | rfl | (simp; done) | (simp [*]; done)), H', ⟨by have := HK1.out; have := HK2.out; omega⟩, ⟨by (try simp only [hl8_1]); (try simp only [hl8_2]); (with_reducible repeat (first | apply Kd.R_alloc | apply Kd.R_drewN | apply Kd.R_drew)); exact Kd.R_mono HO_7.out (fun _ hk => hk.2)⟩, ⟨by (try simp only [hl8_1]); (try simp only [hl8_2]); (with_reducible repeat (first | apply Kd.R_alloc | apply Kd.R_drewN | apply Kd.R_drew)); exact HO_8.out⟩, ⟨by (try simp only [hl8_1]); (try simp only [hl8_2]); (with_reducible repeat (first | apply Kd.R_alloc | apply Kd.R_drewN | apply Kd.R_drew)); exact HO185.out⟩, ⟨by repeat (first | (with_reducible first | exact HB.out | apply below_alloc | apply pw_below_drewN | apply below_drew1) | exact HB.out)⟩⟩
                                          · rw [if_neg c47] at H
                                            exact absurd H (by simp)
                                      · rw [if_neg c42] at H
                                        exact absurd H (by simp)
                                    · rw [if_neg c41] at H
                                      exact absurd H (by simp)
                                  · rw [if_neg c40] at H
                                    have c40b0 : ((wrap64 ((rd t156 x11_2) - (rd x9_2 x10_1))) == (wrap64 (-a1))) = false := beq_eq_false_iff_ne.mpr c40
                                    have c40b1 : ((wrap64 ((rd t156 x11_2) - (rd x9_2 x10_1))) != (wrap64 (-a1))) = true := bne_iff_ne.mpr c40
                                    by_cases c52 : (wrap64 ((rd t156 x11_2) - (rd x9_2 x10_1))) = 1
                                    · rw [if_pos c52] at H
                                      have c52b0 : ((wrap64 ((rd t156 x11_2) - (rd x9_2 x10_1))) == 1) = true := beq_iff_eq.mpr c52
                                      have c52b1 : ((wrap64 ((rd t156 x11_2) - (rd x9_2 x10_1))) != 1) = false := bne_eq_false_iff_eq.mpr c52
                                      clear c52
                                      by_cases c53 : a1 = 0
                                      · rw [if_pos c53] at H
                                        exact absurd H (by simp)
                                      · rw [if_neg c53] at H
                                        have c53b0 : (a1 == 0) = false := beq_eq_false_iff_ne.mpr c53
                                        have c53b1 : (a1 != 0) = true := bne_iff_ne.mpr c53
                                        by_cases c54 : (wrap64 (Int.tdiv (rd t156 x11_2) a1)) = (wrap64 (Int.tdiv (rd x9_2 x10_1) a1))
                                        · rw [if_pos c54] at H
                                          have c54b0 : ((wrap64 (Int.tdiv (rd t156 x11_2) a1)) == (wrap64 (Int.tdiv (rd x9_2 x10_1) a1))) = true := beq_iff_eq.mpr c54
                                          have c54b1 : ((wrap64 (Int.tdiv (rd t156 x11_2) a1)) != (wrap64 (Int.tdiv (rd x9_2 x10_1) a1))) = false := bne_eq_false_iff_eq.mpr c54
                                          clear c54
                                          by_cases c55 : 0 ≤ (rd t156 x11_2)
                                          · rw [if_pos c55] at H
                                            have c55b0 : decide (0 ≤ (rd t156 x11_2)) = true := decide_eq_true c55
                                            clear c55
                                            by_cases c56 : (rd t156 x11_2) < (x8_2.length : Int)
                                            · rw [if_pos c56] at H
                                              have c56b0 : decide ((rd t156 x11_2) < (x8_2.length : Int)) = true := decide_eq_true c56
                                              clear c56
                                              obtain ⟨bq57, hbq57⟩ : ∃ b_ : Bool, b_ = (rdOf false x8_2 (rd t156 x11_2)) := ⟨_, rfl⟩
                                              replace H : (if (bq57 = true) then (spec_RegionConnected.l1 k2 a1 t156 x8_2 x9_2 x10_1 (wrap64 (x11_2 + 1))) else (if x9_2.length < 17592186044416 then (spec_RegionConnected.l1 k2 a1 t156 (x8_2.set ((rd t156 x11_2) : Int).toNat true) (x9_2 ++ [rd t156 x11_2]) x10_1 (wrap64 (x11_2 + 1))) else (none))) = some r := by rw [← hbq57] at H; exact H
                                              have Nbq57 := Aside0.mk hbq57
                                              clear hbq57
                                              by_cases c58 : (bq57 = true)
                                              · subst c58
                                                have H1 : (spec_RegionConnected.l1 k2 a1 t156 x8_2 x9_2 x10_1 (wrap64 (x11_2 + 1))) = some r := by rw [if_pos rfl] at H; exact H
                                                clear H
                                                have H := H1
                                                clear H1
                                                have H' := Aside0.mk H
                                                clear H
                                                have p168 : 0 ≤ (x11_2 : Int) := of_decide_eq_true (by first | (with_reducible assumption) | assumption)
                                                have q168 : x11_2 < (t156.length : Int) := of_decide_eq_true (by first | (with_reducible assumption) | assumption)
                                                obtain ⟨ad168, e168, hx168_0⟩ := Kd.at_int (Kd.R_reads' HO_7.out).2.2 x11_2 p168 q168
                                                obtain rfl : ad162 = ad168 := (by injection e168)
                                                replace p168 := eq_true p168
                                                replace q168 := eq_true q168
                                                obtain ⟨Ao59, co59, eo59⟩ := Kd.R_slice HO_9.out
                                                subst eo59
                                                have p169 : 0 ≤ (x10_1 : Int) := of_decide_eq_true (by first | (with_reducible assumption) | assumption)
                                                have q169 : x10_1 < (x9_2.length : Int) := of_decide_eq_true (by first | (with_reducible assumption) | assumption)
                                                obtain ⟨ad169, e169, hx169_0⟩ := Kd.at_int (Kd.R_reads' HO_9.out).2.2 x10_1 p169 q169
                                                cases e169
                                                replace p169 := eq_true p169
                                                replace q169 := eq_true q169
                                                have p186 : 0 ≤ (x11_2 : Int) := of_decide_eq_true (by first | (with_reducible assumption) | assumption)
                                                have q186 : x11_2 < (t156.length : Int) := of_decide_eq_true (by first | (with_reducible assumption) | assumption)
                                                obtain ⟨ad186, e186, hx186_0⟩ := Kd.at_int (Kd.R_reads' HO_7.out).2.2 x11_2 p186 q186
                                                obtain rfl : ad162 = ad186 := (by injection e186)
                                                replace p186 := eq_true p186
                                                replace q186 := eq_true q186
                                                have p187 : 0 ≤ (x10_1 : Int) := of_decide_eq_true (by first | (with_reducible assumption) | assumption)
                                                have q187 : x10_1 < (x9_2.length : Int) := of_decide_eq_true (by first | (with_reducible assumption) | assumption)
                                                obtain ⟨ad187, e187, hx187_0⟩ := Kd.at_int (Kd.R_reads' HO_9.out).2.2 x10_1 p187 q187
                                                obtain rfl : ad169 = ad187 := (by injection e187)
                                                replace p187 := eq_true p187
                                                replace q187 := eq_true q187
                                                have p188 : 0 ≤ (x11_2 : Int) := of_decide_eq_true (by first | (with_reducible assumption) | assumption)
                                                have q188 : x11_2 < (t156.length : Int) := of_decide_eq_true (by first | (with_reducible assumption) | assumption)
                                                obtain ⟨ad188, e188, hx188_0⟩ := Kd.at_int (Kd.R_reads' HO_7.out).2.2 x11_2 p188 q188
                                                obtain rfl : ad162 = ad188 := (by injection e188)
                                                replace p188 := eq_true p188
                                                replace q188 := eq_true q188
                                                have p189 : 0 ≤ ((rd t156 x11_2) : Int) := of_decide_eq_true (by first | (with_reducible assumption) | assumption)
                                                have q189 : (rd t156 x11_2) < (x8_2.length : Int) := of_decide_eq_true (by first | (with_reducible assumption) | assumption)
                                                obtain ⟨ad189, e189, hx189_0⟩ := Kd.at_bool (Kd.R_reads' HO_8.out).2.2 (rd t156 x11_2) p189 q189
                                                (try rw [← Nbq57.out] at hx189_0)
                                                obtain rfl : (⟨go13, 0, none⟩ : Addr) = ad189 := (by injection e189)
                                                (first | simp only [add_plain] at hx189_0 | simp only [add_at] at hx189_0 | simp only [Addr.add, Nat.zero_add] at hx189_0 | skip)
                                                replace p189 := eq_true p189
                                                replace q189 := eq_true q189
                                                go_wp2
                                                repeat (go_quiet (fail); try go_wp2)
                                                (try simp only [← hl8_2])
                                                go_roundg k2
                                                case measure => have := HK1.out; have := HK2.out; omega
                                                case rel => exact ⟨(x8_2), (x9_2), (wrap64 (x11_2 + 1)), (by first | rfl | (simp; done) | (simp [*]; done)), H', ⟨by have := HK1.out; have := HK2.out; omega⟩, ⟨by (try simp only [hl8_1]); (try simp only [hl8_2]); (with_reducible repeat (first | apply Kd.R_alloc | apply Kd.R_drewN | apply Kd.R_drew)); exact HO_7.out⟩, ⟨by (try simp only [hl8_1]); (try simp only [hl8_2]); (with_reducible repeat (first | apply Kd.R_alloc | apply Kd.R_drewN | apply Kd.R_drew)); exact HO_8.out⟩, ⟨by (try simp only [hl8_1]); (try simp only [hl8_2]); (with_reducible repeat (first | apply Kd.R_alloc | apply Kd.R_drewN | apply Kd.R_drew)); exact HO_9.out⟩, ⟨by repeat (first | (with_reducible first | exact HB.out | apply below_alloc | apply pw_below_drewN | apply below_drew1) | exact HB.out)⟩⟩
                                              · replace c58 := Bool.eq_false_iff.mpr c58
                                                subst c58
                                                have H1 : (if x9_2.length < 17592186044416 then (spec_RegionConnected.l1 k2 a1 t156 (x8_2.set ((rd t156 x11_2) : Int).toNat true) (x9_2 ++ [rd t156 x11_2]) x10_1 (wrap64 (x11_2 + 1))) else (none)) = some r := by rw [if_neg (show ¬ (false = true) by decide)] at H; exact H
                                                clear H
                                                have H := H1
                                                clear H1
                                                obtain ⟨y191, hy191⟩ : ∃ y_ : List Bool, y_ = (x8_2.set ((rd t156 x11_2) : Int).toNat true) := ⟨_, rfl⟩
                                                replace H : (if x9_2.length < 17592186044416 then (spec_RegionConnected.l1 k2 a1 t156 y191 (x9_2 ++ [rd t156 x11_2]) x10_1 (wrap64 (x11_2 + 1))) else (none)) = some r := by first | (rw [hy191]; with_reducible exact H) | (have H2_ := (Option.bind_some _ _).symm.trans H; rw [hy191]; with_reducible exact H2_) | (have H2_ := (Option.bind_some _ _).symm.trans H; with_reducible exact H2_) | with_reducible exact H | (rw [hy191]; exact H) | exact H
                                                have Ny191 := Aside0.mk hy191
                                                clear hy191
                                                by_cases c61 : x9_2.length < 17592186044416
                                                · rw [if_pos c61] at H
                                                  have LMc61 := Aside0.mk c61
                                                  clear c61
                                                  obtain ⟨y193, hy193⟩ : ∃ y_ : List Int, y_ = (x9_2 ++ [rd t156 x11_2]) := ⟨_, rfl⟩
                                                  replace H : (spec_RegionConnected.l1 k2 a1 t156 y191 y193 x10_1 (wrap64 (x11_2 + 1))) = some r := by first | (rw [hy193]; with_reducible exact H) | (have H2_ := (Option.bind_some _ _).symm.trans H; rw [hy193]; with_reducible exact H2_) | (have H2_ := (Option.bind_some _ _).symm.trans H; with_reducible exact H2_) | with_reducible exact H | (rw [hy193]; exact H) | exact H
                                                  have Ny193 := Aside0.mk hy193
                                                  clear hy193
                                                  have H' := Aside0.mk H
                                                  clear H
                                                  have p168 : 0 ≤ (x11_2 : Int) := of_decide_eq_true (by first | (with_reducible assumption) | assumption)
                                                  have q168 : x11_2 < (t156.length : Int) := of_decide_eq_true (by first | (with_reducible assumption) | assumption)
                                                  obtain ⟨ad168, e168, hx168_0⟩ := Kd.at_int (Kd.R_reads' HO_7.out).2.2 x11_2 p168 q168
                                                  obtain rfl : ad162 = ad168 := (by injection e168)
                                                  replace p168 := eq_true p168
                                                  replace q168 := eq_true q168
                                                  obtain ⟨Ao62, co62, eo62⟩ := Kd.R_slice HO_9.out
                                                  subst eo62
                                                  have p169 : 0 ≤ (x10_1 : Int) := of_decide_eq_true (by first | (with_reducible assumption) | assumption)
                                                  have q169 : x10_1 < (x9_2.length : Int) := of_decide_eq_true (by first | (with_reducible assumption) | assumption)
                                                  obtain ⟨ad169, e169, hx169_0⟩ := Kd.at_int (Kd.R_reads' HO_9.out).2.2 x10_1 p169 q169
                                                  cases e169
                                                  replace p169 := eq_true p169
                                                  replace q169 := eq_true q169
                                                  have p186 : 0 ≤ (x11_2 : Int) := of_decide_eq_true (by first | (with_reducible assumption) | assumption)
                                                  have q186 : x11_2 < (t156.length : Int) := of_decide_eq_true (by first | (with_reducible assumption) | assumption)
                                                  obtain ⟨ad186, e186, hx186_0⟩ := Kd.at_int (Kd.R_reads' HO_7.out).2.2 x11_2 p186 q186
                                                  obtain rfl : ad162 = ad186 := (by injection e186)
                                                  replace p186 := eq_true p186
                                                  replace q186 := eq_true q186
                                                  have p187 : 0 ≤ (x10_1 : Int) := of_decide_eq_true (by first | (with_reducible assumption) | assumption)
                                                  have q187 : x10_1 < (x9_2.length : Int) := of_decide_eq_true (by first | (with_reducible assumption) | assumption)
                                                  obtain ⟨ad187, e187, hx187_0⟩ := Kd.at_int (Kd.R_reads' HO_9.out).2.2 x10_1 p187 q187
                                                  obtain rfl : ad169 = ad187 := (by injection e187)
                                                  replace p187 := eq_true p187
                                                  replace q187 := eq_true q187
                                                  have p188 : 0 ≤ (x11_2 : Int) := of_decide_eq_true (by first | (with_reducible assumption) | assumption)
                                                  have q188 : x11_2 < (t156.length : Int) := of_decide_eq_true (by first | (with_reducible assumption) | assumption)
                                                  obtain ⟨ad188, e188, hx188_0⟩ := Kd.at_int (Kd.R_reads' HO_7.out).2.2 x11_2 p188 q188
                                                  obtain rfl : ad162 = ad188 := (by injection e188)
                                                  replace p188 := eq_true p188
                                                  replace q188 := eq_true q188
                                                  have p189 : 0 ≤ ((rd t156 x11_2) : Int) := of_decide_eq_true (by first | (with_reducible assumption) | assumption)
                                                  have q189 : (rd t156 x11_2) < (x8_2.length : Int) := of_decide_eq_true (by first | (with_reducible assumption) | assumption)
                                                  obtain ⟨ad189, e189, hx189_0⟩ := Kd.at_bool (Kd.R_reads' HO_8.out).2.2 (rd t156 x11_2) p189 q189
                                                  (try rw [← Nbq57.out] at hx189_0)
                                                  obtain rfl : (⟨go13, 0, none⟩ : Addr) = ad189 := (by injection e189)
                                                  (first | simp only [add_plain] at hx189_0 | simp only [add_at] at hx189_0 | simp only [Addr.add, Nat.zero_add] at hx189_0 | skip)
                                                  replace p189 := eq_true p189
                                                  replace q189 := eq_true q189
                                                  have p190 : 0 ≤ (x11_2 : Int) := of_decide_eq_true (by first | (with_reducible assumption) | assumption)
                                                  have q190 : x11_2 < (t156.length : Int) := of_decide_eq_true (by first | (with_reducible assumption) | assumption)
                                                  obtain ⟨ad190, e190, hx190_0⟩ := Kd.at_int (Kd.R_reads' HO_7.out).2.2 x11_2 p190 q190
                                                  obtain rfl : ad162 = ad190 := (by injection e190)
                                                  replace p190 := eq_true p190
                                                  replace q190 := eq_true q190
                                                  have p60 : 0 ≤ ((rd t156 x11_2) : Int) := of_decide_eq_true (by first | (with_reducible assumption) | assumption)
                                                  have q60 : ((rd t156 x11_2) : Int) < ((x8_2.length : Int) : Int) := of_decide_eq_true (by first | (with_reducible assumption) | assumption)
                                                  obtain ⟨hx60_0, hf60_0⟩ := Kd.R_celln false HO_8.out ((rd t156 x11_2) : Int) p60 q60
                                                  replace p60 := eq_true p60
                                                  replace q60 := eq_true q60
                                                  have HP63 := Kd.R_putg HO_8.out ((rd t156 x11_2) : Int) true
                                                  go_wp2_with (first | ((with_reducible refine gate_store (t := 4) (p := 102) rfl ?_); (try (rw [drewN_self wr]; generalize hq_ : World.drewN wr _ = wr; have n0_ := Aside0.mk (Kd.R_at hq_ HO_7.out); have n1_ := Aside0.mk (Kd.R_at hq_ HO_8.out); have n2_ := Aside0.mk (Kd.R_at hq_ HO_9.out); have n3_ := Aside0.mk (below_at hq_ HB.out); clear hq_ HO_7 HO_8 HO_9 HB; have HO_7 := n0_; have HO_8 := n1_; have HO_9 := n2_; have HB := n3_; clear n0_ n1_ n2_ n3_; (try (have HP63 := Kd.R_putg HO_8.out ((rd t156 x11_2) : Int) true)); (try (obtain ⟨hx60_0, hf60_0⟩ := Kd.R_celln false HO_8.out ((rd t156 x11_2) : Int) (of_eq_true p60) (of_eq_true q60))))); refine store_event (t := 4) (p := 102) (v := ?vo_w64) (w1 := (wr.setCell ⟨go13, ((rd t156 x11_2) : Int).toNat, none⟩ (.bool true))) ?hg ?ho ?hn ?hr ?_; (case ho => rfl); (case hg => rfl); (case hn => rfl); (case hr => first | (go_simp; done) | (go_simp; rfl)); intro w64 hw; have hg : wr.grownBy w64 (some go13) := (by rw [hw]; exact HP63.2); have hp_ : Kd.R Kd.bool 4 w64 w.heap.size (fun _ => True) (.slice (some ⟨go13, 0, none⟩) x8_2.length co13) y191 := (by rw [hw, Ny191.out]; exact HP63.1); clear HP63; have n0_ := Aside0.mk (Kd.R_over' (v := (.slice (some ⟨go13, 0, none⟩) x8_2.length co13)) (by (with_reducible repeat (first | apply Kd.R_alloc | apply Kd.R_drewN | apply Kd.R_drew)); exact HO_7.out) (Kd.R_typed HO_8.out) (by decide) hg); have n1_ := Aside0.mk (hp_); have n2_ := Aside0.mk (Kd.R_over' (v := (.slice (some ⟨go13, 0, none⟩) x8_2.length co13)) (by (with_reducible repeat (first | apply Kd.R_alloc | apply Kd.R_drewN | apply Kd.R_drew)); exact HO_9.out) (Kd.R_typed HO_8.out) (by decide) hg); have n3_ := Aside0.mk ((by rw [hw]; exact below_set (HB.out) GB13.out : Below w.heap.size w w64)); clear HO_7; clear HO_8; clear HO_9; clear HB; have HO_7 := n0_; have HO_8 := n1_; have HO_9 := n2_; have HB := n3_; clear n0_ n1_ n2_ n3_; clear hg hw hp_; have p192 : 0 ≤ (x11_2 : Int) := of_decide_eq_true (by first | (with_reducible assumption) | assumption); have q192 : x11_2 < (t156.length : Int) := of_decide_eq_true (by first | (with_reducible assumption) | assumption); obtain ⟨ad192, e192, hx192_0⟩ := Kd.at_int (Kd.R_reads' HO_7.out).2.2 x11_2 p192 q192; obtain rfl : ad162 = ad192 := (by injection e192); replace p192 := eq_true p192; replace q192 := eq_true q192) | ((with_reducible refine gate_builtin (b := .append) (xs := #[.tmp 103, .tmp 108]) rfl ?_); at_builtin; refine Kd.R_append (Kd.int .i64) (w0 := w) w.heap.size rfl (.tmp 103) (.tmp 108) 22 3 (.int .i64 0) 8 rfl Try.underlying22 info3 rfl (by decide) (by omega) (.slice (some ad169) x9_2.length co62) x9_2 (rd t156 x11_2) [.int .i64 (rd t156 x11_2)] (fun k_ => some k_ ≠ (.slice (some ad162) t156.length co15 : Value).ownBlock) (fun _ => False) rfl rfl ?aP (fun _ hk => hk.elim) ?aF ?aO ?aB ?aS ?aL ?_; (case aP => exact rfl); (case aB => exact (by repeat (first | (with_reducible first | exact HB.out | apply below_alloc | apply pw_below_drewN | apply below_drew1) | exact HB.out))); (case aF => exact (fun k_ hk => Kd.fresh' (Kd.R_lt (by (with_reducible repeat (first | apply Kd.R_alloc | apply Kd.R_drewN | apply Kd.R_drew)); exact HO_7.out)) k_ hk)); (case aO => exact (by (with_reducible repeat (first | apply Kd.R_alloc | apply Kd.R_drewN | apply Kd.R_drew)); exact HO_9.out)); (case aS => exact (below_size (by repeat (first | (with_reducible first | exact HB.out | apply below_alloc | apply pw_below_drewN | apply below_drew1) | exact HB.out)))); (case aL => have := LMc61.out; omega); intro v194 w65 ho hb hg hat; rw [← Ny193.out] at ho; have n0_ := Aside0.mk (Kd.R_after (ok := (fun _ => True)) (by (with_reducible repeat (first | apply Kd.R_alloc | apply Kd.R_drewN | apply Kd.R_drew)); exact Kd.R_mono HO_7.out (fun _ hk => ⟨trivial, hk⟩)) hg hat); have n1_ := Aside0.mk (Kd.R_over' (by (with_reducible repeat (first | apply Kd.R_alloc | apply Kd.R_drewN | apply Kd.R_drew)); exact HO_8.out) (Kd.R_typed (by (with_reducible repeat (first | apply Kd.R_alloc | apply Kd.R_drewN | apply Kd.R_drew)); exact HO_9.out)) (by decide) hg); have n2_ := Aside0.mk (hb); have n3_ := Aside0.mk (ho); clear HO_7; clear HO_8; clear HB; clear HO_9; have HO_7 := n0_; have HO_8 := n1_; have HB := n2_; have HO195 := n3_; clear n0_ n1_ n2_ n3_; clear ho hb hg hat))
                                                  repeat (go_quiet (first | ((with_reducible refine gate_store (t := 4) (p := 102) rfl ?_); (try (rw [drewN_self wr]; generalize hq_ : World.drewN wr _ = wr; have n0_ := Aside0.mk (Kd.R_at hq_ HO_7.out); have n1_ := Aside0.mk (Kd.R_at hq_ HO_8.out); have n2_ := Aside0.mk (Kd.R_at hq_ HO_9.out); have n3_ := Aside0.mk (below_at hq_ HB.out); clear hq_ HO_7 HO_8 HO_9 HB; have HO_7 := n0_; have HO_8 := n1_; have HO_9 := n2_; have HB := n3_; clear n0_ n1_ n2_ n3_; (try (have HP63 := Kd.R_putg HO_8.out ((rd t156 x11_2) : Int) true)); (try (obtain ⟨hx60_0, hf60_0⟩ := Kd.R_celln false HO_8.out ((rd t156 x11_2) : Int) (of_eq_true p60) (of_eq_true q60))))); refine store_event (t := 4) (p := 102) (v := ?vo_w64) (w1 := (wr.setCell ⟨go13, ((rd t156 x11_2) : Int).toNat, none⟩ (.bool true))) ?hg ?ho ?hn ?hr ?_; (case ho => rfl); (case hg => rfl); (case hn => rfl); (case hr => first | (go_simp; done) | (go_simp; rfl)); intro w64 hw; have hg : wr.grownBy w64 (some go13) := (by rw [hw]; exact HP63.2); have hp_ : Kd.R Kd.bool 4 w64 w.heap.size (fun _ => True) (.slice (some ⟨go13, 0, none⟩) x8_2.length co13) y191 := (by rw [hw, Ny191.out]; exact HP63.1); clear HP63; have n0_ := Aside0.mk (Kd.R_over' (v := (.slice (some ⟨go13, 0, none⟩) x8_2.length co13)) (by (with_reducible repeat (first | apply Kd.R_alloc | apply Kd.R_drewN | apply Kd.R_drew)); exact HO_7.out) (Kd.R_typed HO_8.out) (by decide) hg); have n1_ := Aside0.mk (hp_); have n2_ := Aside0.mk (Kd.R_over' (v := (.slice (some ⟨go13, 0, none⟩) x8_2.length co13)) (by (with_reducible repeat (first | apply Kd.R_alloc | apply Kd.R_drewN | apply Kd.R_drew)); exact HO_9.out) (Kd.R_typed HO_8.out) (by decide) hg); have n3_ := Aside0.mk ((by rw [hw]; exact below_set (HB.out) GB13.out : Below w.heap.size w w64)); clear HO_7; clear HO_8; clear HO_9; clear HB; have HO_7 := n0_; have HO_8 := n1_; have HO_9 := n2_; have HB := n3_; clear n0_ n1_ n2_ n3_; clear hg hw hp_; have p192 : 0 ≤ (x11_2 : Int) := of_decide_eq_true (by first | (with_reducible assumption) | assumption); have q192 : x11_2 < (t156.length : Int) := of_decide_eq_true (by first | (with_reducible assumption) | assumption); obtain ⟨ad192, e192, hx192_0⟩ := Kd.at_int (Kd.R_reads' HO_7.out).2.2 x11_2 p192 q192; obtain rfl : ad162 = ad192 := (by injection e192); replace p192 := eq_true p192; replace q192 := eq_true q192) | ((with_reducible refine gate_builtin (b := .append) (xs := #[.tmp 103, .tmp 108]) rfl ?_); at_builtin; refine Kd.R_append (Kd.int .i64) (w0 := w) w.heap.size rfl (.tmp 103) (.tmp 108) 22 3 (.int .i64 0) 8 rfl Try.underlying22 info3 rfl (by decide) (by omega) (.slice (some ad169) x9_2.length co62) x9_2 (rd t156 x11_2) [.int .i64 (rd t156 x11_2)] (fun k_ => some k_ ≠ (.slice (some ad162) t156.length co15 : Value).ownBlock) (fun _ => False) rfl rfl ?aP (fun _ hk => hk.elim) ?aF ?aO ?aB ?aS ?aL ?_; (case aP => exact rfl); (case aB => exact (by repeat (first | (with_reducible first | exact HB.out | apply below_alloc | apply pw_below_drewN | apply below_drew1) | exact HB.out))); (case aF => exact (fun k_ hk => Kd.fresh' (Kd.R_lt (by (with_reducible repeat (first | apply Kd.R_alloc | apply Kd.R_drewN | apply Kd.R_drew)); exact HO_7.out)) k_ hk)); (case aO => exact (by (with_reducible repeat (first | apply Kd.R_alloc | apply Kd.R_drewN | apply Kd.R_drew)); exact HO_9.out)); (case aS => exact (below_size (by repeat (first | (with_reducible first | exact HB.out | apply below_alloc | apply pw_below_drewN | apply below_drew1) | exact HB.out)))); (case aL => have := LMc61.out; omega); intro v194 w65 ho hb hg hat; rw [← Ny193.out] at ho; have n0_ := Aside0.mk (Kd.R_after (ok := (fun _ => True)) (by (with_reducible repeat (first | apply Kd.R_alloc | apply Kd.R_drewN | apply Kd.R_drew)); exact Kd.R_mono HO_7.out (fun _ hk => ⟨trivial, hk⟩)) hg hat); have n1_ := Aside0.mk (Kd.R_over' (by (with_reducible repeat (first | apply Kd.R_alloc | apply Kd.R_drewN | apply Kd.R_drew)); exact HO_8.out) (Kd.R_typed (by (with_reducible repeat (first | apply Kd.R_alloc | apply Kd.R_drewN | apply Kd.R_drew)); exact HO_9.out)) (by decide) hg); have n2_ := Aside0.mk (hb); have n3_ := Aside0.mk (ho); clear HO_7; clear HO_8; clear HB; clear HO_9; have HO_7 := n0_; have HO_8 := n1_; have HB := n2_; have HO195 := n3_; clear n0_ n1_ n2_ n3_; clear ho hb hg hat)); try go_wp2_with (first | ((with_reducible refine gate_store (t := 4) (p := 102) rfl ?_); (try (rw [drewN_self wr]; generalize hq_ : World.drewN wr _ = wr; have n0_ := Aside0.mk (Kd.R_at hq_ HO_7.out); have n1_ := Aside0.mk (Kd.R_at hq_ HO_8.out); have n2_ := Aside0.mk (Kd.R_at hq_ HO_9.out); have n3_ := Aside0.mk (below_at hq_ HB.out); clear hq_ HO_7 HO_8 HO_9 HB; have HO_7 := n0_; have HO_8 := n1_; have HO_9 := n2_; have HB := n3_; clear n0_ n1_ n2_ n3_; (try (have HP63 := Kd.R_putg HO_8.out ((rd t156 x11_2) : Int) true)); (try (obtain ⟨hx60_0, hf60_0⟩ := Kd.R_celln false HO_8.out ((rd t156 x11_2) : Int) (of_eq_true p60) (of_eq_true q60))))); refine store_event (t := 4) (p := 102) (v := ?vo_w64) (w1 := (wr.setCell ⟨go13, ((rd t156 x11_2) : Int).toNat, none⟩ (.bool true))) ?hg ?ho ?hn ?hr ?_; (case ho => rfl); (case hg => rfl); (case hn => rfl); (case hr => first | (go_simp; done) | (go_simp; rfl)); intro w64 hw; have hg : wr.grownBy w64 (some go13) := (by rw [hw]; exact HP63.2); have hp_ : Kd.R Kd.bool 4 w64 w.heap.size (fun _ => True) (.slice (some ⟨go13, 0, none⟩) x8_2.length co13) y191 := (by rw [hw, Ny191.out]; exact HP63.1); clear HP63; have n0_ := Aside0.mk (Kd.R_over' (v := (.slice (some ⟨go13, 0, none⟩) x8_2.length co13)) (by (with_reducible repeat (first | apply Kd.R_alloc | apply Kd.R_drewN | apply Kd.R_drew)); exact HO_7.out) (Kd.R_typed HO_8.out) (by decide) hg); have n1_ := Aside0.mk (hp_); have n2_ := Aside0.mk (Kd.R_over' (v := (.slice (some ⟨go13, 0, none⟩) x8_2.length co13)) (by (with_reducible repeat (first | apply Kd.R_alloc | apply Kd.R_drewN | apply Kd.R_drew)); exact HO_9.out) (Kd.R_typed HO_8.out) (by decide) hg); have n3_ := Aside0.mk ((by rw [hw]; exact below_set (HB.out) GB13.out : Below w.heap.size w w64)); clear HO_7; clear HO_8; clear HO_9; clear HB; have HO_7 := n0_; have HO_8 := n1_; have HO_9 := n2_; have HB := n3_; clear n0_ n1_ n2_ n3_; clear hg hw hp_; have p192 : 0 ≤ (x11_2 : Int) := of_decide_eq_true (by first | (with_reducible assumption) | assumption); have q192 : x11_2 < (t156.length : Int) := of_decide_eq_true (by first | (with_reducible assumption) | assumption); obtain ⟨ad192, e192, hx192_0⟩ := Kd.at_int (Kd.R_reads' HO_7.out).2.2 x11_2 p192 q192; obtain rfl : ad162 = ad192 := (by injection e192); replace p192 := eq_true p192; replace q192 := eq_true q192) | ((with_reducible refine gate_builtin (b := .append) (xs := #[.tmp 103, .tmp 108]) rfl ?_); at_builtin; refine Kd.R_append (Kd.int .i64) (w0 := w) w.heap.size rfl (.tmp 103) (.tmp 108) 22 3 (.int .i64 0) 8 rfl Try.underlying22 info3 rfl (by decide) (by omega) (.slice (some ad169) x9_2.length co62) x9_2 (rd t156 x11_2) [.int .i64 (rd t156 x11_2)] (fun k_ => some k_ ≠ (.slice (some ad162) t156.length co15 : Value).ownBlock) (fun _ => False) rfl rfl ?aP (fun _ hk => hk.elim) ?aF ?aO ?aB ?aS ?aL ?_; (case aP => exact rfl); (case aB => exact (by repeat (first | (with_reducible first | exact HB.out | apply below_alloc | apply pw_below_drewN | apply below_drew1) | exact HB.out))); (case aF => exact (fun k_ hk => Kd.fresh' (Kd.R_lt (by (with_reducible repeat (first | apply Kd.R_alloc | apply Kd.R_drewN | apply Kd.R_drew)); exact HO_7.out)) k_ hk)); (case aO => exact (by (with_reducible repeat (first | apply Kd.R_alloc | apply Kd.R_drewN | apply Kd.R_drew)); exact HO_9.out)); (case aS => exact (below_size (by repeat (first | (with_reducible first | exact HB.out | apply below_alloc | apply pw_below_drewN | apply below_drew1) | exact HB.out)))); (case aL => have := LMc61.out; omega); intro v194 w65 ho hb hg hat; rw [← Ny193.out] at ho; have n0_ := Aside0.mk (Kd.R_after (ok := (fun _ => True)) (by (with_reducible repeat (first | apply Kd.R_alloc | apply Kd.R_drewN | apply Kd.R_drew)); exact Kd.R_mono HO_7.out (fun _ hk => ⟨trivial, hk⟩)) hg hat); have n1_ := Aside0.mk (Kd.R_over' (by (with_reducible repeat (first | apply Kd.R_alloc | apply Kd.R_drewN | apply Kd.R_drew)); exact HO_8.out) (Kd.R_typed (by (with_reducible repeat (first | apply Kd.R_alloc | apply Kd.R_drewN | apply Kd.R_drew)); exact HO_9.out)) (by decide) hg); have n2_ := Aside0.mk (hb); have n3_ := Aside0.mk (ho); clear HO_7; clear HO_8; clear HB; clear HO_9; have HO_7 := n0_; have HO_8 := n1_; have HB := n2_; have HO195 := n3_; clear n0_ n1_ n2_ n3_; clear ho hb hg hat)))
                                                  (try simp only [← hl8_2])
                                                  go_roundg k2
                                                  case measure => have := HK1.out; have := HK2.out; omega
                                                  case rel => exact ⟨(y191), (y193), (wrap64 (x11_2 + 1)), (by first | rfl | (simp; done) | (simp [*]; done)), H', ⟨by have := HK1.out; have := HK2.out; omega⟩, ⟨by (try simp only [hl8_1]); (try simp only [hl8_2]); (with_reducible repeat (first | apply Kd.R_alloc | apply Kd.R_drewN | apply Kd.R_drew)); exact Kd.R_mono HO_7.out (fun _ hk => hk.2)⟩, ⟨by (try simp only [hl8_1]); (try simp only [hl8_2]); (with_reducible repeat (first | apply Kd.R_alloc | apply Kd.R_drewN | apply Kd.R_drew)); exact HO_8.out⟩, ⟨by (try simp only [hl8_1]); (try simp only [hl8_2]); (with_reducible repeat (first | apply Kd.R_alloc | apply Kd.R_drewN | apply Kd.R_drew)); exact HO195.out⟩, ⟨by repeat (first | (with_reducible first | exact HB.out | apply below_alloc | apply pw_below_drewN | apply below_drew1) | exact HB.out)⟩⟩
                                                · rw [if_neg c61] at H
                                                  exact absurd H (by simp)
                                            · rw [if_neg c56] at H
                                              exact absurd H (by simp)
                                          · rw [if_neg c55] at H
                                            exact absurd H (by simp)
                                        · rw [if_neg c54] at H
                                          have c54b0 : ((wrap64 (Int.tdiv (rd t156 x11_2) a1)) == (wrap64 (Int.tdiv (rd x9_2 x10_1) a1))) = false := beq_eq_false_iff_ne.mpr c54
                                          have c54b1 : ((wrap64 (Int.tdiv (rd t156 x11_2) a1)) != (wrap64 (Int.tdiv (rd x9_2 x10_1) a1))) = true := bne_iff_ne.mpr c54
                                          have H' := Aside0.mk H
                                          clear H
                                          have p168 : 0 ≤ (x11_2 : Int) := of_decide_eq_true (by first | (with_reducible assumption) | assumption)
                                          have q168 : x11_2 < (t156.length : Int) := of_decide_eq_true (by first | (with_reducible assumption) | assumption)
                                          obtain ⟨ad168, e168, hx168_0⟩ := Kd.at_int (Kd.R_reads' HO_7.out).2.2 x11_2 p168 q168
                                          obtain rfl : ad162 = ad168 := (by injection e168)
                                          replace p168 := eq_true p168
                                          replace q168 := eq_true q168
                                          obtain ⟨Ao66, co66, eo66⟩ := Kd.R_slice HO_9.out
                                          subst eo66
                                          have p169 : 0 ≤ (x10_1 : Int) := of_decide_eq_true (by first | (with_reducible assumption) | assumption)
                                          have q169 : x10_1 < (x9_2.length : Int) := of_decide_eq_true (by first | (with_reducible assumption) | assumption)
                                          obtain ⟨ad169, e169, hx169_0⟩ := Kd.at_int (Kd.R_reads' HO_9.out).2.2 x10_1 p169 q169
                                          cases e169
                                          replace p169 := eq_true p169
                                          replace q169 := eq_true q169
                                          have p186 : 0 ≤ (x11_2 : Int) := of_decide_eq_true (by first | (with_reducible assumption) | assumption)
                                          have q186 : x11_2 < (t156.length : Int) := of_decide_eq_true (by first | (with_reducible assumption) | assumption)
                                          obtain ⟨ad186, e186, hx186_0⟩ := Kd.at_int (Kd.R_reads' HO_7.out).2.2 x11_2 p186 q186
                                          obtain rfl : ad162 = ad186 := (by injection e186)
                                          replace p186 := eq_true p186
                                          replace q186 := eq_true q186
                                          have p187 : 0 ≤ (x10_1 : Int) := of_decide_eq_true (by first | (with_reducible assumption) | assumption)
                                          have q187 : x10_1 < (x9_2.length : Int) := of_decide_eq_true (by first | (with_reducible assumption) | assumption)
                                          obtain ⟨ad187, e187, hx187_0⟩ := Kd.at_int (Kd.R_reads' HO_9.out).2.2 x10_1 p187 q187
                                          obtain rfl : ad169 = ad187 := (by injection e187)
                                          replace p187 := eq_true p187
                                          replace q187 := eq_true q187
                                          go_wp2
                                          repeat (go_quiet (fail); try go_wp2)
                                          (try simp only [← hl8_2])
                                          go_roundg k2
                                          case measure => have := HK1.out; have := HK2.out; omega
                                          case rel => exact ⟨(x8_2), (x9_2), (wrap64 (x11_2 + 1)), (by first | rfl | (simp; done) | (simp [*]; done)), H', ⟨by have := HK1.out; have := HK2.out; omega⟩, ⟨by (try simp only [hl8_1]); (try simp only [hl8_2]); (with_reducible repeat (first | apply Kd.R_alloc | apply Kd.R_drewN | apply Kd.R_drew)); exact HO_7.out⟩, ⟨by (try simp only [hl8_1]); (try simp only [hl8_2]); (with_reducible repeat (first | apply Kd.R_alloc | apply Kd.R_drewN | apply Kd.R_drew)); exact HO_8.out⟩, ⟨by (try simp only [hl8_1]); (try simp only [hl8_2]); (with_reducible repeat (first | apply Kd.R_alloc | apply Kd.R_drewN | apply Kd.R_drew)); exact HO_9.out⟩, ⟨by repeat (first | (with_reducible first | exact HB.out | apply below_alloc | apply pw_below_drewN | apply below_drew1) | exact HB.out)⟩⟩
                                    · rw [if_neg c52] at H
                                      have c52b0 : ((wrap64 ((rd t156 x11_2) - (rd x9_2 x10_1))) == 1) = false := beq_eq_false_iff_ne.mpr c52
                                      have c52b1 : ((wrap64 ((rd t156 x11_2) - (rd x9_2 x10_1))) != 1) = true := bne_iff_ne.mpr c52
                                      by_cases c67 : (wrap64 ((rd t156 x11_2) - (rd x9_2 x10_1))) = (-1)
                                      · rw [if_pos c67] at H
                                        have c67b0 : ((wrap64 ((rd t156 x11_2) - (rd x9_2 x10_1))) == (-1)) = true := beq_iff_eq.mpr c67
                                        have c67b1 : ((wrap64 ((rd t156 x11_2) - (rd x9_2 x10_1))) != (-1)) = false := bne_eq_false_iff_eq.mpr c67
                                        clear c67
                                        by_cases c68 : a1 = 0
                                        · rw [if_pos c68] at H
                                          exact absurd H (by simp)
                                        · rw [if_neg c68] at H
                                          have c68b0 : (a1 == 0) = false := beq_eq_false_iff_ne.mpr c68
                                          have c68b1 : (a1 != 0) = true := bne_iff_ne.mpr c68
                                          by_cases c69 : (wrap64 (Int.tdiv (rd t156 x11_2) a1)) = (wrap64 (Int.tdiv (rd x9_2 x10_1) a1))
                                          · rw [if_pos c69] at H
                                            have c69b0 : ((wrap64 (Int.tdiv (rd t156 x11_2) a1)) == (wrap64 (Int.tdiv (rd x9_2 x10_1) a1))) = true := beq_iff_eq.mpr c69
                                            have c69b1 : ((wrap64 (Int.tdiv (rd t156 x11_2) a1)) != (wrap64 (Int.tdiv (rd x9_2 x10_1) a1))) = false := bne_eq_false_iff_eq.mpr c69
                                            clear c69
                                            by_cases c70 : 0 ≤ (rd t156 x11_2)
                                            · rw [if_pos c70] at H
                                              have c70b0 : decide (0 ≤ (rd t156 x11_2)) = true := decide_eq_true c70
                                              clear c70
                                              by_cases c71 : (rd t156 x11_2) < (x8_2.length : Int)
                                              · rw [if_pos c71] at H
                                                have c71b0 : decide ((rd t156 x11_2) < (x8_2.length : Int)) = true := decide_eq_true c71
                                                clear c71
                                                obtain ⟨bq72, hbq72⟩ : ∃ b_ : Bool, b_ = (rdOf false x8_2 (rd t156 x11_2)) := ⟨_, rfl⟩
                                                replace H : (if (bq72 = true) then (spec_RegionConnected.l1 k2 a1 t156 x8_2 x9_2 x10_1 (wrap64 (x11_2 + 1))) else (if x9_2.length < 17592186044416 then (spec_RegionConnected.l1 k2 a1 t156 (x8_2.set ((rd t156 x11_2) : Int).toNat true) (x9_2 ++ [rd t156 x11_2]) x10_1 (wrap64 (x11_2 + 1))) else (none))) = some r := by rw [← hbq72] at H; exact H
                                                have Nbq72 := Aside0.mk hbq72
                                                clear hbq72
                                                by_cases c73 : (bq72 = true)
                                                · subst c73
                                                  have H1 : (spec_RegionConnected.l1 k2 a1 t156 x8_2 x9_2 x10_1 (wrap64 (x11_2 + 1))) = some r := by rw [if_pos rfl] at H; exact H
                                                  clear H
                                                  have H := H1
                                                  clear H1
                                                  have H' := Aside0.mk H
                                                  clear H
                                                  have p168 : 0 ≤ (x11_2 : Int) := of_decide_eq_true (by first | (with_reducible assumption) | assumption)
                                                  have q168 : x11_2 < (t156.length : Int) := of_decide_eq_true (by first | (with_reducible assumption) | assumption)
                                                  obtain ⟨ad168, e168, hx168_0⟩ := Kd.at_int (Kd.R_reads' HO_7.out).2.2 x11_2 p168 q168
                                                  obtain rfl : ad162 = ad168 := (by injection e168)
                                                  replace p168 := eq_true p168
                                                  replace q168 := eq_true q168
                                                  obtain ⟨Ao74, co74, eo74⟩ := Kd.R_slice HO_9.out
                                                  subst eo74
                                                  have p169 : 0 ≤ (x10_1 : Int) := of_decide_eq_true (by first | (with_reducible assumption) | assumption)
                                                  have q169 : x10_1 < (x9_2.length : Int) := of_decide_eq_true (by first | (with_reducible assumption) | assumption)
                                                  obtain ⟨ad169, e169, hx169_0⟩ := Kd.at_int (Kd.R_reads' HO_9.out).2.2 x10_1 p169 q169
                                                  cases e169
                                                  replace p169 := eq_true p169
                                                  replace q169 := eq_true q169
                                                  have p196 : 0 ≤ (x11_2 : Int) := of_decide_eq_true (by first | (with_reducible assumption) | assumption)
                                                  have q196 : x11_2 < (t156.length : Int) := of_decide_eq_true (by first | (with_reducible assumption) | assumption)
                                                  obtain ⟨ad196, e196, hx196_0⟩ := Kd.at_int (Kd.R_reads' HO_7.out).2.2 x11_2 p196 q196
                                                  obtain rfl : ad162 = ad196 := (by injection e196)
                                                  replace p196 := eq_true p196
                                                  replace q196 := eq_true q196
                                                  have p197 : 0 ≤ (x10_1 : Int) := of_decide_eq_true (by first | (with_reducible assumption) | assumption)
                                                  have q197 : x10_1 < (x9_2.length : Int) := of_decide_eq_true (by first | (with_reducible assumption) | assumption)
                                                  obtain ⟨ad197, e197, hx197_0⟩ := Kd.at_int (Kd.R_reads' HO_9.out).2.2 x10_1 p197 q197
                                                  obtain rfl : ad169 = ad197 := (by injection e197)
                                                  replace p197 := eq_true p197
                                                  replace q197 := eq_true q197
                                                  have p198 : 0 ≤ (x11_2 : Int) := of_decide_eq_true (by first | (with_reducible assumption) | assumption)
                                                  have q198 : x11_2 < (t156.length : Int) := of_decide_eq_true (by first | (with_reducible assumption) | assumption)
                                                  obtain ⟨ad198, e198, hx198_0⟩ := Kd.at_int (Kd.R_reads' HO_7.out).2.2 x11_2 p198 q198
                                                  obtain rfl : ad162 = ad198 := (by injection e198)
                                                  replace p198 := eq_true p198
                                                  replace q198 := eq_true q198
                                                  have p199 : 0 ≤ ((rd t156 x11_2) : Int) := of_decide_eq_true (by first | (with_reducible assumption) | assumption)
                                                  have q199 : (rd t156 x11_2) < (x8_2.length : Int) := of_decide_eq_true (by first | (with_reducible assumption) | assumption)
                                                  obtain ⟨ad199, e199, hx199_0⟩ := Kd.at_bool (Kd.R_reads' HO_8.out).2.2 (rd t156 x11_2) p199 q199
                                                  (try rw [← Nbq72.out] at hx199_0)
                                                  obtain rfl : (⟨go13, 0, none⟩ : Addr) = ad199 := (by injection e199)
                                                  (first | simp only [add_plain] at hx199_0 | simp only [add_at] at hx199_0 | simp only [Addr.add, Nat.zero_add] at hx199_0 | skip)
                                                  replace p199 := eq_true p199
                                                  replace q199 := eq_true q199
                                                  go_wp2
                                                  repeat (go_quiet (fail); try go_wp2)
                                                  (try simp only [← hl8_2])
                                                  go_roundg k2
                                                  case measure => have := HK1.out; have := HK2.out; omega
                                                  case rel => exact ⟨(x8_2), (x9_2), (wrap64 (x11_2 + 1)), (by first | rfl | (simp; done) | (simp [*]; done)), H', ⟨by have := HK1.out; have := HK2.out; omega⟩, ⟨by (try simp only [hl8_1]); (try simp only [hl8_2]); (with_reducible repeat (first | apply Kd.R_alloc | apply Kd.R_drewN | apply Kd.R_drew)); exact HO_7.out⟩, ⟨by (try simp only [hl8_1]); (try simp only [hl8_2]); (with_reducible repeat (first | apply Kd.R_alloc | apply Kd.R_drewN | apply Kd.R_drew)); exact HO_8.out⟩, ⟨by (try simp only [hl8_1]); (try simp only [hl8_2]); (with_reducible repeat (first | apply Kd.R_alloc | apply Kd.R_drewN | apply Kd.R_drew)); exact HO_9.out⟩, ⟨by repeat (first | (with_reducible first | exact HB.out | apply below_alloc | apply pw_below_drewN | apply below_drew1) | exact HB.out)⟩⟩
                                                · replace c73 := Bool.eq_false_iff.mpr c73
                                                  subst c73
                                                  have H1 : (if x9_2.length < 17592186044416 then (spec_RegionConnected.l1 k2 a1 t156 (x8_2.set ((rd t156 x11_2) : Int).toNat true) (x9_2 ++ [rd t156 x11_2]) x10_1 (wrap64 (x11_2 + 1))) else (none)) = some r := by rw [if_neg (show ¬ (false = true) by decide)] at H; exact H
                                                  clear H
                                                  have H := H1
                                                  clear H1
                                                  obtain ⟨y201, hy201⟩ : ∃ y_ : List Bool, y_ = (x8_2.set ((rd t156 x11_2) : Int).toNat true) := ⟨_, rfl⟩
                                                  replace H : (if x9_2.length < 17592186044416 then (spec_RegionConnected.l1 k2 a1 t156 y201 (x9_2 ++ [rd t156 x11_2]) x10_1 (wrap64 (x11_2 + 1))) else (none)) = some r := by first | (rw [hy201]; with_reducible exact H) | (have H2_ := (Option.bind_some _ _).symm.trans H; rw [hy201]; with_reducible exact H2_) | (have H2_ := (Option.bind_some _ _).symm.trans H; with_reducible exact H2_) | with_reducible exact H | (rw [hy201]; exact H) | exact H
                                                  have Ny201 := Aside0.mk hy201
                                                  clear hy201
                                                  by_cases c76 : x9_2.length < 17592186044416
                                                  · rw [if_pos c76] at H
                                                    have LMc76 := Aside0.mk c76
                                                    clear c76
                                                    obtain ⟨y203, hy203⟩ : ∃ y_ : List Int, y_ = (x9_2 ++ [rd t156 x11_2]) := ⟨_, rfl⟩
                                                    replace H : (spec_RegionConnected.l1 k2 a1 t156 y201 y203 x10_1 (wrap64 (x11_2 + 1))) = some r := by first | (rw [hy203]; with_reducible exact H) | (have H2_ := (Option.bind_some _ _).symm.trans H; rw [hy203]; with_reducible exact H2_) | (have H2_ := (Option.bind_some _ _).symm.trans H; with_reducible exact H2_) | with_reducible exact H | (rw [hy203]; exact H) | exact H
                                                    have Ny203 := Aside0.mk hy203
                                                    clear hy203
                                                    have H' := Aside0.mk H
                                                    clear H
                                                    have p168 : 0 ≤ (x11_2 : Int) := of_decide_eq_true (by first | (with_reducible assumption) | assumption)
                                                    have q168 : x11_2 < (t156.length : Int) := of_decide_eq_true (by first | (with_reducible assumption) | assumption)
                                                    obtain ⟨ad168, e168, hx168_0⟩ := Kd.at_int (Kd.R_reads' HO_7.out).2.2 x11_2 p168 q168
                                                    obtain rfl : ad162 = ad168 := (by injection e168)
                                                    replace p168 := eq_true p168
                                                    replace q168 := eq_true q168
                                                    obtain ⟨Ao77, co77, eo77⟩ := Kd.R_slice HO_9.out
                                                    subst eo77
                                                    have p169 : 0 ≤ (x10_1 : Int) := of_decide_eq_true (by first | (with_reducible assumption) | assumption)
                                                    have q169 : x10_1 < (x9_2.length : Int) := of_decide_eq_true (by first | (with_reducible assumption) | assumption)
                                                    obtain ⟨ad169, e169, hx169_0⟩ := Kd.at_int (Kd.R_reads' HO_9.out).2.2 x10_1 p169 q169
                                                    cases e169
                                                    replace p169 := eq_true p169
                                                    replace q169 := eq_true q169
                                                    have p196 : 0 ≤ (x11_2 : Int) := of_decide_eq_true (by first | (with_reducible assumption) | assumption)
                                                    have q196 : x11_2 < (t156.length : Int) := of_decide_eq_true (by first | (with_reducible assumption) | assumption)
                                                    obtain ⟨ad196, e196, hx196_0⟩ := Kd.at_int (Kd.R_reads' HO_7.out).2.2 x11_2 p196 q196
                                                    obtain rfl : ad162 = ad196 := (by injection e196)
                                                    replace p196 := eq_true p196
                                                    replace q196 := eq_true q196
                                                    have p197 : 0 ≤ (x10_1 : Int) := of_decide_eq_true (by first | (with_reducible assumption) | assumption)
                                                    have q197 : x10_1 < (x9_2.length : Int) := of_decide_eq_true (by first | (with_reducible assumption) | assumption)
                                                    obtain ⟨ad197, e197, hx197_0⟩ := Kd.at_int (Kd.R_reads' HO_9.out).2.2 x10_1 p197 q197
                                                    obtain rfl : ad169 = ad197 := (by injection e197)
                                                    replace p197 := eq_true p197
                                                    replace q197 := eq_true q197
                                                    have p198 : 0 ≤ (x11_2 : Int) := of_decide_eq_true (by first | (with_reducible assumption) | assumption)
                                                    have q198 : x11_2 < (t156.length : Int) := of_decide_eq_true (by first | (with_reducible assumption) | assumption)
                                                    obtain ⟨ad198, e198, hx198_0⟩ := Kd.at_int (Kd.R_reads' HO_7.out).2.2 x11_2 p198 q198
                                                    obtain rfl : ad162 = ad198 := (by injection e198)
                                                    replace p198 := eq_true p198
                                                    replace q198 := eq_true q198
                                                    have p199 : 0 ≤ ((rd t156 x11_2) : Int) := of_decide_eq_true (by first | (with_reducible assumption) | assumption)
                                                    have q199 : (rd t156 x11_2) < (x8_2.length : Int) := of_decide_eq_true (by first | (with_reducible assumption) | assumption)
                                                    obtain ⟨ad199, e199, hx199_0⟩ := Kd.at_bool (Kd.R_reads' HO_8.out).2.2 (rd t156 x11_2) p199 q199
                                                    (try rw [← Nbq72.out] at hx199_0)
                                                    obtain rfl : (⟨go13, 0, none⟩ : Addr) = ad199 := (by injection e199)
                                                    (first | simp only [add_plain] at hx199_0 | simp only [add_at] at hx199_0 | simp only [Addr.add, Nat.zero_add] at hx199_0 | skip)
                                                    replace p199 := eq_true p199
                                                    replace q199 := eq_true q199
                                                    have p200 : 0 ≤ (x11_2 : Int) := of_decide_eq_true (by first | (with_reducible assumption) | assumption)
                                                    have q200 : x11_2 < (t156.length : Int) := of_decide_eq_true (by first | (with_reducible assumption) | assumption)
                                                    obtain ⟨ad200, e200, hx200_0⟩ := Kd.at_int (Kd.R_reads' HO_7.out).2.2 x11_2 p200 q200
                                                    obtain rfl : ad162 = ad200 := (by injection e200)
                                                    replace p200 := eq_true p200
                                                    replace q200 := eq_true q200
                                                    have p75 : 0 ≤ ((rd t156 x11_2) : Int) := of_decide_eq_true (by first | (with_reducible assumption) | assumption)
                                                    have q75 : ((rd t156 x11_2) : Int) < ((x8_2.length : Int) : Int) := of_decide_eq_true (by first | (with_reducible assumption) | assumption)
                                                    obtain ⟨hx75_0, hf75_0⟩ := Kd.R_celln false HO_8.out ((rd t156 x11_2) : Int) p75 q75
                                                    replace p75 := eq_true p75
                                                    replace q75 := eq_true q75
                                                    have HP78 := Kd.R_putg HO_8.out ((rd t156 x11_2) : Int) true
                                                    go_wp2_with (first | ((with_reducible refine gate_store (t := 4) (p := 102) rfl ?_); (try (rw [drewN_self wr]; generalize hq_ : World.drewN wr _ = wr; have n0_ := Aside0.mk (Kd.R_at hq_ HO_7.out); have n1_ := Aside0.mk (Kd.R_at hq_ HO_8.out); have n2_ := Aside0.mk (Kd.R_at hq_ HO_9.out); have n3_ := Aside0.mk (below_at hq_ HB.out); clear hq_ HO_7 HO_8 HO_9 HB; have HO_7 := n0_; have HO_8 := n1_; have HO_9 := n2_; have HB := n3_; clear n0_ n1_ n2_ n3_; (try (have HP78 := Kd.R_putg HO_8.out ((rd t156 x11_2) : Int) true)); (try (obtain ⟨hx75_0, hf75_0⟩ := Kd.R_celln false HO_8.out ((rd t156 x11_2) : Int) (of_eq_true p75) (of_eq_true q75))))); refine store_event (t := 4) (p := 102) (v := ?vo_w79) (w1 := (wr.setCell ⟨go13, ((rd t156 x11_2) : Int).toNat, none⟩ (.bool true))) ?hg ?ho ?hn ?hr ?_; (case ho => rfl); (case hg => rfl); (case hn => rfl); (case hr => first | (go_simp; done) | (go_simp; rfl)); intro w79 hw; have hg : wr.grownBy w79 (some go13) := (by rw [hw]; exact HP78.2); have hp_ : Kd.R Kd.bool 4 w79 w.heap.size (fun _ => True) (.slice (some ⟨go13, 0, none⟩) x8_2.length co13) y201 := (by rw [hw, Ny201.out]; exact HP78.1); clear HP78; have n0_ := Aside0.mk (Kd.R_over' (v := (.slice (some ⟨go13, 0, none⟩) x8_2.length co13)) (by (with_reducible repeat (first | apply Kd.R_alloc | apply Kd.R_drewN | apply Kd.R_drew)); exact HO_7.out) (Kd.R_typed HO_8.out) (by decide) hg); have n1_ := Aside0.mk (hp_); have n2_ := Aside0.mk (Kd.R_over' (v := (.slice (some ⟨go13, 0, none⟩) x8_2.length co13)) (by (with_reducible repeat (first | apply Kd.R_alloc | apply Kd.R_drewN | apply Kd.R_drew)); exact HO_9.out) (Kd.R_typed HO_8.out) (by decide) hg); have n3_ := Aside0.mk ((by rw [hw]; exact below_set (HB.out) GB13.out : Below w.heap.size w w79)); clear HO_7; clear HO_8; clear HO_9; clear HB; have HO_7 := n0_; have HO_8 := n1_; have HO_9 := n2_; have HB := n3_; clear n0_ n1_ n2_ n3_; clear hg hw hp_; have p202 : 0 ≤ (x11_2 : Int) := of_decide_eq_true (by first | (with_reducible assumption) | assumption); have q202 : x11_2 < (t156.length : Int) := of_decide_eq_true (by first | (with_reducible assumption) | assumption); obtain ⟨ad202, e202, hx202_0⟩ := Kd.at_int (Kd.R_reads' HO_7.out).2.2 x11_2 p202 q202; obtain rfl : ad162 = ad202 := (by injection e202); replace p202 := eq_true p202; replace q202 := eq_true q202) | ((with_reducible refine gate_builtin (b := .append) (xs := #[.tmp 103, .tmp 108]) rfl ?_); at_builtin; refine Kd.R_append (Kd.int .i64) (w0 := w) w.heap.size rfl (.tmp 103) (.tmp 108) 22 3 (.int .i64 0) 8 rfl Try.underlying22 info3 rfl (by decide) (by omega) (.slice (some ad169) x9_2.length co77) x9_2 (rd t156 x11_2) [.int .i64 (rd t156 x11_2)] (fun k_ => some k_ ≠ (.slice (some ad162) t156.length co15 : Value).ownBlock) (fun _ => False) rfl rfl ?aP (fun _ hk => hk.elim) ?aF ?aO ?aB ?aS ?aL ?_; (case aP => exact rfl); (case aB => exact (by repeat (first | (with_reducible first | exact HB.out | apply below_alloc | apply pw_below_drewN | apply below_drew1) | exact HB.out))); (case aF => exact (fun k_ hk => Kd.fresh' (Kd.R_lt (by (with_reducible repeat (first | apply Kd.R_alloc | apply Kd.R_drewN | apply Kd.R_drew)); exact HO_7.out)) k_ hk)); (case aO => exact (by (with_reducible repeat (first | apply Kd.R_alloc | apply Kd.R_drewN | apply Kd.R_drew)); exact HO_9.out)); (case aS => exact (below_size (by repeat (first | (with_reducible first | exact HB.out | apply below_alloc | apply pw_below_drewN | apply below_drew1) | exact HB.out)))); (case aL => have := LMc76.out; omega); intro v204 w80 ho hb hg hat; rw [← Ny203.out] at ho; have n0_ := Aside0.mk (Kd.R_after (ok := (fun _ => True)) (by (with_reducible repeat (first | apply Kd.R_alloc | apply Kd.R_drewN | apply Kd.R_drew)); exact Kd.R_mono HO_7.out (fun _ hk => ⟨trivial, hk⟩)) hg hat); have n1_ := Aside0.mk (Kd.R_over' (by (with_reducible repeat (first | apply Kd.R_alloc | apply Kd.R_drewN | apply Kd.R_drew)); exact HO_8.out) (Kd.R_typed (by (with_reducible repeat (first | apply Kd.R_alloc | apply Kd.R_drewN | apply Kd.R_drew)); exact HO_9.out)) (by decide) hg); have n2_ := Aside0.mk (hb); have n3_ := Aside0.mk (ho); clear HO_7; clear HO_8; clear HB; clear HO_9; have HO_7 := n0_; have HO_8 := n1_; have HB := n2_; have HO205 := n3_; clear n0_ n1_ n2_ n3_; clear ho hb hg hat))
                                                    repeat (go_quiet (first | ((with_reducible refine gate_store (t := 4) (p := 102) rfl ?_); (try (rw [drewN_self wr]; generalize hq_ : World.drewN wr _ = wr; have n0_ := Aside0.mk (Kd.R_at hq_ HO_7.out); have n1_ := Aside0.mk (Kd.R_at hq_ HO_8.out); have n2_ := Aside0.mk (Kd.R_at hq_ HO_9.out); have n3_ := Aside0.mk (below_at hq_ HB.out); clear hq_ HO_7 HO_8 HO_9 HB; have HO_7 := n0_; have HO_8 := n1_; have HO_9 := n2_; have HB := n3_; clear n0_ n1_ n2_ n3_; (try (have HP78 := Kd.R_putg HO_8.out ((rd t156 x11_2) : Int) true)); (try (obtain ⟨hx75_0, hf75_0⟩ := Kd.R_celln false HO_8.out ((rd t156 x11_2) : Int) (of_eq_true p75) (of_eq_true q75))))); refine store_event (t := 4) (p := 102) (v := ?vo_w79) (w1 := (wr.setCell ⟨go13, ((rd t156 x11_2) : Int).toNat, none⟩ (.bool true))) ?hg ?ho ?hn ?hr ?_; (case ho => rfl); (case hg => rfl); (case hn => rfl); (case hr => first | (go_simp; done) | (go_simp; rfl)); intro w79 hw; have hg : wr.grownBy w79 (some go13) := (by rw [hw]; exact HP78.2); have hp_ : Kd.R Kd.bool 4 w79 w.heap.size (fun _ => True) (.slice (some ⟨go13, 0, none⟩) x8_2.length co13) y201 := (by rw [hw, Ny201.out]; exact HP78.1); clear HP78; have n0_ := Aside0.mk (Kd.R_over' (v := (.slice (some ⟨go13, 0, none⟩) x8_2.length co13)) (by (with_reducible repeat (first | apply Kd.R_alloc | apply Kd.R_drewN | apply Kd.R_drew)); exact HO_7.out) (Kd.R_typed HO_8.out) (by decide) hg); have n1_ := Aside0.mk (hp_); have n2_ := Aside0.mk (Kd.R_over' (v := (.slice (some ⟨go13, 0, none⟩) x8_2.length co13)) (by (with_reducible repeat (first | apply Kd.R_alloc | apply Kd.R_drewN | apply Kd.R_drew)); exact HO_9.out) (Kd.R_typed HO_8.out) (by decide) hg); have n3_ := Aside0.mk ((by rw [hw]; exact below_set (HB.out) GB13.out : Below w.heap.size w w79)); clear HO_7; clear HO_8; clear HO_9; clear HB; have HO_7 := n0_; have HO_8 := n1_; have HO_9 := n2_; have HB := n3_; clear n0_ n1_ n2_ n3_; clear hg hw hp_; have p202 : 0 ≤ (x11_2 : Int) := of_decide_eq_true (by first | (with_reducible assumption) | assumption); have q202 : x11_2 < (t156.length : Int) := of_decide_eq_true (by first | (with_reducible assumption) | assumption); obtain ⟨ad202, e202, hx202_0⟩ := Kd.at_int (Kd.R_reads' HO_7.out).2.2 x11_2 p202 q202; obtain rfl : ad162 = ad202 := (by injection e202); replace p202 := eq_true p202; replace q202 := eq_true q202) | ((with_reducible refine gate_builtin (b := .append) (xs := #[.tmp 103, .tmp 108]) rfl ?_); at_builtin; refine Kd.R_append (Kd.int .i64) (w0 := w) w.heap.size rfl (.tmp 103) (.tmp 108) 22 3 (.int .i64 0) 8 rfl Try.underlying22 info3 rfl (by decide) (by omega) (.slice (some ad169) x9_2.length co77) x9_2 (rd t156 x11_2) [.int .i64 (rd t156 x11_2)] (fun k_ => some k_ ≠ (.slice (some ad162) t156.length co15 : Value).ownBlock) (fun _ => False) rfl rfl ?aP (fun _ hk => hk.elim) ?aF ?aO ?aB ?aS ?aL ?_; (case aP => exact rfl); (case aB => exact (by repeat (first | (with_reducible first | exact HB.out | apply below_alloc | apply pw_below_drewN | apply below_drew1) | exact HB.out))); (case aF => exact (fun k_ hk => Kd.fresh' (Kd.R_lt (by (with_reducible repeat (first | apply Kd.R_alloc | apply Kd.R_drewN | apply Kd.R_drew)); exact HO_7.out)) k_ hk)); (case aO => exact (by (with_reducible repeat (first | apply Kd.R_alloc | apply Kd.R_drewN | apply Kd.R_drew)); exact HO_9.out)); (case aS => exact (below_size (by repeat (first | (with_reducible first | exact HB.out | apply below_alloc | apply pw_below_drewN | apply below_drew1) | exact HB.out)))); (case aL => have := LMc76.out; omega); intro v204 w80 ho hb hg hat; rw [← Ny203.out] at ho; have n0_ := Aside0.mk (Kd.R_after (ok := (fun _ => True)) (by (with_reducible repeat (first | apply Kd.R_alloc | apply Kd.R_drewN | apply Kd.R_drew)); exact Kd.R_mono HO_7.out (fun _ hk => ⟨trivial, hk⟩)) hg hat); have n1_ := Aside0.mk (Kd.R_over' (by (with_reducible repeat (first | apply Kd.R_alloc | apply Kd.R_drewN | apply Kd.R_drew)); exact HO_8.out) (Kd.R_typed (by (with_reducible repeat (first | apply Kd.R_alloc | apply Kd.R_drewN | apply Kd.R_drew)); exact HO_9.out)) (by decide) hg); have n2_ := Aside0.mk (hb); have n3_ := Aside0.mk (ho); clear HO_7; clear HO_8; clear HB; clear HO_9; have HO_7 := n0_; have HO_8 := n1_; have HB := n2_; have HO205 := n3_; clear n0_ n1_ n2_ n3_; clear ho hb hg hat)); try go_wp2_with (first | ((with_reducible refine gate_store (t := 4) (p := 102) rfl ?_); (try (rw [drewN_self wr]; generalize hq_ : World.drewN wr _ = wr; have n0_ := Aside0.mk (Kd.R_at hq_ HO_7.out); have n1_ := Aside0.mk (Kd.R_at hq_ HO_8.out); have n2_ := Aside0.mk (Kd.R_at hq_ HO_9.out); have n3_ := Aside0.mk (below_at hq_ HB.out); clear hq_ HO_7 HO_8 HO_9 HB; have HO_7 := n0_; have HO_8 := n1_; have HO_9 := n2_; have HB := n3_; clear n0_ n1_ n2_ n3_; (try (have HP78 := Kd.R_putg HO_8.out ((rd t156 x11_2) : Int) true)); (try (obtain ⟨hx75_0, hf75_0⟩ := Kd.R_celln false HO_8.out ((rd t156 x11_2) : Int) (of_eq_true p75) (of_eq_true q75))))); refine store_event (t := 4) (p := 102) (v := ?vo_w79) (w1 := (wr.setCell ⟨go13, ((rd t156 x11_2) : Int).toNat, none⟩ (.bool true))) ?hg ?ho ?hn ?hr ?_; (case ho => rfl); (case hg => rfl); (case hn => rfl); (case hr => first | (go_simp; done) | (go_simp; rfl)); intro w79 hw; have hg : wr.grownBy w79 (some go13) := (by rw [hw]; exact HP78.2); have hp_ : Kd.R Kd.bool 4 w79 w.heap.size (fun _ => True) (.slice (some ⟨go13, 0, none⟩) x8_2.length co13) y201 := (by rw [hw, Ny201.out]; exact HP78.1); clear HP78; have n0_ := Aside0.mk (Kd.R_over' (v := (.slice (some ⟨go13, 0, none⟩) x8_2.length co13)) (by (with_reducible repeat (first | apply Kd.R_alloc | apply Kd.R_drewN | apply Kd.R_drew)); exact HO_7.out) (Kd.R_typed HO_8.out) (by decide) hg); have n1_ := Aside0.mk (hp_); have n2_ := Aside0.mk (Kd.R_over' (v := (.slice (some ⟨go13, 0, none⟩) x8_2.length co13)) (by (with_reducible repeat (first | apply Kd.R_alloc | apply Kd.R_drewN | apply Kd.R_drew)); exact HO_9.out) (Kd.R_typed HO_8.out) (by decide) hg); have n3_ := Aside0.mk ((by rw [hw]; exact below_set (HB.out) GB13.out : Below w.heap.size w w79)); clear HO_7; clear HO_8; clear HO_9; clear HB; have HO_7 := n0_; have HO_8 := n1_; have HO_9 := n2_; have HB := n3_; clear n0_ n1_ n2_ n3_; clear hg hw hp_; have p202 : 0 ≤ (x11_2 : Int) := of_decide_eq_true (by first | (with_reducible assumption) | assumption); have q202 : x11_2 < (t156.length : Int) := of_decide_eq_true (by first | (with_reducible assumption) | assumption); obtain ⟨ad202, e202, hx202_0⟩ := Kd.at_int (Kd.R_reads' HO_7.out).2.2 x11_2 p202 q202; obtain rfl : ad162 = ad202 := (by injection e202); replace p202 := eq_true p202; replace q202 := eq_true q202) | ((with_reducible refine gate_builtin (b := .append) (xs := #[.tmp 103, .tmp 108]) rfl ?_); at_builtin; refine Kd.R_append (Kd.int .i64) (w0 := w) w.heap.size rfl (.tmp 103) (.tmp 108) 22 3 (.int .i64 0) 8 rfl Try.underlying22 info3 rfl (by decide) (by omega) (.slice (some ad169) x9_2.length co77) x9_2 (rd t156 x11_2) [.int .i64 (rd t156 x11_2)] (fun k_ => some k_ ≠ (.slice (some ad162) t156.length co15 : Value).ownBlock) (fun _ => False) rfl rfl ?aP (fun _ hk => hk.elim) ?aF ?aO ?aB ?aS ?aL ?_; (case aP => exact rfl); (case aB => exact (by repeat (first | (with_reducible first | exact HB.out | apply below_alloc | apply pw_below_drewN | apply below_drew1) | exact HB.out))); (case aF => exact (fun k_ hk => Kd.fresh' (Kd.R_lt (by (with_reducible repeat (first | apply Kd.R_alloc | apply Kd.R_drewN | apply Kd.R_drew)); exact HO_7.out)) k_ hk)); (case aO => exact (by (with_reducible repeat (first | apply Kd.R_alloc | apply Kd.R_drewN | apply Kd.R_drew)); exact HO_9.out)); (case aS => exact (below_size (by repeat (first | (with_reducible first | exact HB.out | apply below_alloc | apply pw_below_drewN | apply below_drew1) | exact HB.out)))); (case aL => have := LMc76.out; omega); intro v204 w80 ho hb hg hat; rw [← Ny203.out] at ho; have n0_ := Aside0.mk (Kd.R_after (ok := (fun _ => True)) (by (with_reducible repeat (first | apply Kd.R_alloc | apply Kd.R_drewN | apply Kd.R_drew)); exact Kd.R_mono HO_7.out (fun _ hk => ⟨trivial, hk⟩)) hg hat); have n1_ := Aside0.mk (Kd.R_over' (by (with_reducible repeat (first | apply Kd.R_alloc | apply Kd.R_drewN | apply Kd.R_drew)); exact HO_8.out) (Kd.R_typed (by (with_reducible repeat (first | apply Kd.R_alloc | apply Kd.R_drewN | apply Kd.R_drew)); exact HO_9.out)) (by decide) hg); have n2_ := Aside0.mk (hb); have n3_ := Aside0.mk (ho); clear HO_7; clear HO_8; clear HB; clear HO_9; have HO_7 := n0_; have HO_8 := n1_; have HB := n2_; have HO205 := n3_; clear n0_ n1_ n2_ n3_; clear ho hb hg hat)))
                                                    (try simp only [← hl8_2])
                                                    go_roundg k2
                                                    case measure => have := HK1.out; have := HK2.out; omega
                                                    case rel => exact ⟨(y201), (y203), (wrap64 (x11_2 + 1)), (by first | rfl | (simp; done) | (simp [*]; done)), H', ⟨by have := HK1.out; have := HK2.out; omega⟩, ⟨by (try simp only [hl8_1]); (try simp only [hl8_2]); (with_reducible repeat (first | apply Kd.R_alloc | apply Kd.R_drewN | apply Kd.R_drew)); exact Kd.R_mono HO_7.out (fun _ hk => hk.2)⟩, ⟨by (try simp only [hl8_1]); (try simp only [hl8_2]); (with_reducible repeat (first | apply Kd.R_alloc | apply Kd.R_drewN | apply Kd.R_drew)); exact HO_8.out⟩, ⟨by (try simp only [hl8_1]); (try simp only [hl8_2]); (with_reducible repeat (first | apply Kd.R_alloc | apply Kd.R_drewN | apply Kd.R_drew)); exact HO205.out⟩, ⟨by repeat (first | (with_reducible first | exact HB.out | apply below_alloc | apply pw_below_drewN | apply below_drew1) | exact HB.out)⟩⟩
                                                  · rw [if_neg c76] at H
                                                    exact absurd H (by simp)
                                              · rw [if_neg c71] at H
                                                exact absurd H (by simp)
                                            · rw [if_neg c70] at H
                                              exact absurd H (by simp)
                                          · rw [if_neg c69] at H
                                            have c69b0 : ((wrap64 (Int.tdiv (rd t156 x11_2) a1)) == (wrap64 (Int.tdiv (rd x9_2 x10_1) a1))) = false := beq_eq_false_iff_ne.mpr c69
                                            have c69b1 : ((wrap64 (Int.tdiv (rd t156 x11_2) a1)) != (wrap64 (Int.tdiv (rd x9_2 x10_1) a1))) = true := bne_iff_ne.mpr c69
                                            have H' := Aside0.mk H
                                            clear H
                                            have p168 : 0 ≤ (x11_2 : Int) := of_decide_eq_true (by first | (with_reducible assumption) | assumption)
                                            have q168 : x11_2 < (t156.length : Int) := of_decide_eq_true (by first | (with_reducible assumption) | assumption)
                                            obtain ⟨ad168, e168, hx168_0⟩ := Kd.at_int (Kd.R_reads' HO_7.out).2.2 x11_2 p168 q168
                                            obtain rfl : ad162 = ad168 := (by injection e168)
                                            replace p168 := eq_true p168
                                            replace q168 := eq_true q168
                                            obtain ⟨Ao81, co81, eo81⟩ := Kd.R_slice HO_9.out
                                            subst eo81
                                            have p169 : 0 ≤ (x10_1 : Int) := of_decide_eq_true (by first | (with_reducible assumption) | assumption)
                                            have q169 : x10_1 < (x9_2.length : Int) := of_decide_eq_true (by first | (with_reducible assumption) | assumption)
                                            obtain ⟨ad169, e169, hx169_0⟩ := Kd.at_int (Kd.R_reads' HO_9.out).2.2 x10_1 p169 q169
                                            cases e169
                                            replace p169 := eq_true p169
                                            replace q169 := eq_true q169
                                            have p196 : 0 ≤ (x11_2 : Int) := of_decide_eq_true (by first | (with_reducible assumption) | assumption)
                                            have q196 : x11_2 < (t156.length : Int) := of_decide_eq_true (by first | (with_reducible assumption) | assumption)
                                            obtain ⟨ad196, e196, hx196_0⟩ := Kd.at_int (Kd.R_reads' HO_7.out).2.2 x11_2 p196 q196
                                            obtain rfl : ad162 = ad196 := (by injection e196)
                                            replace p196 := eq_true p196
                                            replace q196 := eq_true q196
                                            have p197 : 0 ≤ (x10_1 : Int) := of_decide_eq_true (by first | (with_reducible assumption) | assumption)
                                            have q197 : x10_1 < (x9_2.length : Int) := of_decide_eq_true (by first | (with_reducible assumption) | assumption)
                                            obtain ⟨ad197, e197, hx197_0⟩ := Kd.at_int (Kd.R_reads' HO_9.out).2.2 x10_1 p197 q197
                                            obtain rfl : ad169 = ad197 := (by injection e197)
                                            replace p197 := eq_true p197
                                            replace q197 := eq_true q197
                                            go_wp2
                                            repeat (go_quiet (fail); try go_wp2)
                                            (try simp only [← hl8_2])
                                            go_roundg k2
                                            case measure => have := HK1.out; have := HK2.out; omega
                                            case rel => exact ⟨(x8_2), (x9_2), (wrap64 (x11_2 + 1)), (by first | rfl | (simp; done) | (simp [*]; done)), H', ⟨by have := HK1.out; have := HK2.out; omega⟩, ⟨by (try simp only [hl8_1]); (try simp only [hl8_2]); (with_reducible repeat (first | apply Kd.R_alloc | apply Kd.R_drewN | apply Kd.R_drew)); exact HO_7.out⟩, ⟨by (try simp only [hl8_1]); (try simp only [hl8_2]); (with_reducible repeat (first | apply Kd.R_alloc | apply Kd.R_drewN | apply Kd.R_drew)); exact HO_8.out⟩, ⟨by (try simp only [hl8_1]); (try simp only [hl8_2]); (with_reducible repeat (first | apply Kd.R_alloc | apply Kd.R_drewN | apply Kd.R_drew)); exact HO_9.out⟩, ⟨by repeat (first | (with_reducible first | exact HB.out | apply below_alloc | apply pw_below_drewN | apply below_drew1) | exact HB.out)⟩⟩
                                      · rw [if_neg c67] at H
                                        have c67b0 : ((wrap64 ((rd t156 x11_2) - (rd x9_2 x10_1))) == (-1)) = false := beq_eq_false_iff_ne.mpr c67
                                        have c67b1 : ((wrap64 ((rd t156 x11_2) - (rd x9_2 x10_1))) != (-1)) = true := bne_iff_ne.mpr c67
                                        have H' := Aside0.mk H
                                        clear H
                                        have p168 : 0 ≤ (x11_2 : Int) := of_decide_eq_true (by first | (with_reducible assumption) | assumption)
                                        have q168 : x11_2 < (t156.length : Int) := of_decide_eq_true (by first | (with_reducible assumption) | assumption)
                                        obtain ⟨ad168, e168, hx168_0⟩ := Kd.at_int (Kd.R_reads' HO_7.out).2.2 x11_2 p168 q168
                                        obtain rfl : ad162 = ad168 := (by injection e168)
                                        replace p168 := eq_true p168
                                        replace q168 := eq_true q168
                                        obtain ⟨Ao82, co82, eo82⟩ := Kd.R_slice HO_9.out
                                        subst eo82
                                        have p169 : 0 ≤ (x10_1 : Int) := of_decide_eq_true (by first | (with_reducible assumption) | assumption)
                                        have q169 : x10_1 < (x9_2.length : Int) := of_decide_eq_true (by first | (with_reducible assumption) | assumption)
                                        obtain ⟨ad169, e169, hx169_0⟩ := Kd.at_int (Kd.R_reads' HO_9.out).2.2 x10_1 p169 q169
                                        cases e169
                                        replace p169 := eq_true p169
                                        replace q169 := eq_true q169
                                        go_wp2
                                        repeat (go_quiet (fail); try go_wp2)
                                        (try simp only [← hl8_2])
                                        go_roundg k2
                                        case measure => have := HK1.out; have := HK2.out; omega
                                        case rel => exact ⟨(x8_2), (x9_2), (wrap64 (x11_2 + 1)), (by first | rfl | (simp; done) | (simp [*]; done)), H', ⟨by have := HK1.out; have := HK2.out; omega⟩, ⟨by (try simp only [hl8_1]); (try simp only [hl8_2]); (with_reducible repeat (first | apply Kd.R_alloc | apply Kd.R_drewN | apply Kd.R_drew)); exact HO_7.out⟩, ⟨by (try simp only [hl8_1]); (try simp only [hl8_2]); (with_reducible repeat (first | apply Kd.R_alloc | apply Kd.R_drewN | apply Kd.R_drew)); exact HO_8.out⟩, ⟨by (try simp only [hl8_1]); (try simp only [hl8_2]); (with_reducible repeat (first | apply Kd.R_alloc | apply Kd.R_drewN | apply Kd.R_drew)); exact HO_9.out⟩, ⟨by repeat (first | (with_reducible first | exact HB.out | apply below_alloc | apply pw_below_drewN | apply below_drew1) | exact HB.out)⟩⟩
                              · rw [if_neg c27] at H
                                exact absurd H (by simp)
                            · rw [if_neg c26] at H
                              exact absurd H (by simp)
                          · rw [if_neg c25] at H
                            exact absurd H (by simp)
                        · rw [if_neg c24] at H
                          have c24b0 : decide (x11_2 < (t156.length : Int)) = false := decide_eq_false c24
                          clear c24
                          have H' := Aside0.mk H
                          clear H
                          go_wp2
                          repeat (go_quiet (fail); try go_wp2)
                          (try simp only [← hl8_1, ← hl8_2])
                          go_roundg k2
                          case measure => have := HK1.out; have := HK2.out; omega
                          case rel => exact ⟨(x8_2), (x9_2), (wrap64 (x10_1 + 1)), (by first | rfl | (simp; done) | (simp [*]; done)), H', ⟨by have := HK1.out; have := HK2.out; omega⟩, ⟨by (try simp only [hl8_1]); (try simp only [hl8_2]); (with_reducible repeat (first | apply Kd.R_alloc | apply Kd.R_drewN | apply Kd.R_drew)); exact HO_7.out⟩, ⟨by (try simp only [hl8_1]); (try simp only [hl8_2]); (with_reducible repeat (first | apply Kd.R_alloc | apply Kd.R_drewN | apply Kd.R_drew)); exact HO_8.out⟩, ⟨by (try simp only [hl8_1]); (try simp only [hl8_2]); (with_reducible repeat (first | apply Kd.R_alloc | apply Kd.R_drewN | apply Kd.R_drew)); exact HO_9.out⟩, ⟨by repeat (first | (with_reducible first | exact HB.out | apply below_alloc | apply pw_below_drewN | apply below_drew1) | exact HB.out)⟩⟩
                  · rw [if_neg c22] at H
                    have c22b0 : decide (x10_1 < (x9_1.length : Int)) = false := decide_eq_false c22
                    clear c22
                    obtain rfl := Option.some.inj H
                    obtain ⟨Ao83, co83, eo83⟩ := Kd.R_slice HO_9.out
                    subst eo83
                    go_wp2
                    repeat (go_quiet (fail); try go_wp2)
                    go_ret
                    exact ⟨by first | rfl | (simp [errW_none, errW_some] <;> rfl) | (simp [*, errW_none, errW_some] <;> rfl), by repeat (first | (with_reducible first | exact HB.out | apply below_alloc | apply pw_below_drewN | apply below_drew1) | exact HB.out)⟩
            · rw [if_neg c12] at H
              exact absurd H (by simp)
          · rw [if_neg c11] at H
            exact absurd H (by simp)
        · rw [if_neg c10] at H
          exact absurd H (by simp)
      · rw [if_neg c9] at H
        exact absurd H (by simp)
    · rw [if_neg c8] at H
      exact absurd H (by simp)

end Go.Proofs.Ytinockknikfmgaa.PFnExactRegionConnected
