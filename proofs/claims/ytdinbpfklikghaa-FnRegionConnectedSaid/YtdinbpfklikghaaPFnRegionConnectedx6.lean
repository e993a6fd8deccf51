/- Functions of the program as plain Lean functions, and what a call of each comes to. No conditions. -/
import Derived.Test.YtdinbpfklikghaaPFnRegionConnectedx0
import Derived.Test.YtdinbpfklikghaaPFnRegionConnectedx5
namespace Go.Proofs.Ytdinbpfklikghaa.PFnRegionConnected
open Go.RowKit Go.Proofs.YtdinbpfklikghaaW.PrintWords Go.Proofs.YtdinbpfklikghaaW.PrintLast Go.Proofs.YtdinbpfklikghaaW.PrintMore
attribute [local go_sem] max2_int min2_int max_two min_two max_three min_three max_four min_four   -- for this text's walks alone
set_option linter.unusedVariables false
set_option linter.unusedSimpArgs false

/-! ### spec_RegionConnected: function 25 -/
mutual
def spec_RegionConnected.l0 : Nat → Int → List Int → List Bool → List Int → Int → Option (Bool)
  | 0, _, _, _, _, _ => none
  | k + 1, x1, x7, x8, x9, x10 => if x10 < (x9.length : Int) then (spec_RegionConnected.l1 k x1 x7 x8 x9 x10 0) else (some ((x9.length : Int) == (x7.length : Int)))
def spec_RegionConnected.l1 : Nat → Int → List Int → List Bool → List Int → Int → Int → Option (Bool)
  | 0, _, _, _, _, _, _ => none
  | k + 1, x1, x7, x8, x9, x10, x11 => if x11 < (x7.length : Int) then (if 0 ≤ x11 then (if 0 ≤ x10 then (if x10 < (x9.length : Int) then (if (wrap64 ((rd x7 x11) - (rd x9 x10))) = x1 then (if 0 ≤ (rd x7 x11) then (if (rd x7 x11) < (x8.length : Int) then (if (rdOf false x8 (rd x7 x11) = true) then (spec_RegionConnected.l1 k x1 x7 x8 x9 x10 (wrap64 (x11 + 1))) else (if x9.length < 17592186044416 then (spec_RegionConnected.l1 k x1 x7 (x8.set ((rd x7 x11) : Int).toNat true) (x9 ++ [rd x7 x11]) x10 (wrap64 (x11 + 1))) else (none))) else (none)) else (none)) else (if (wrap64 ((rd x7 x11) - (rd x9 x10))) = (wrap64 (-x1)) then (if 0 ≤ (rd x7 x11) then (if (rd x7 x11) < (x8.length : Int) then (if (rdOf false x8 (rd x7 x11) = true) then (spec_RegionConnected.l1 k x1 x7 x8 x9 x10 (wrap64 (x11 + 1))) else (if x9.length < 17592186044416 then (spec_RegionConnected.l1 k x1 x7 (x8.set ((rd x7 x11) : Int).toNat true) (x9 ++ [rd x7 x11]) x10 (wrap64 (x11 + 1))) else (none))) else (none)) else (none)) else (if (wrap64 ((rd x7 x11) - (rd x9 x10))) = 1 then (if x1 = 0 then (none) else (if (wrap64 (Int.tdiv (rd x7 x11) x1)) = (wrap64 (Int.tdiv (rd x9 x10) x1)) then (if 0 ≤ (rd x7 x11) then (if (rd x7 x11) < (x8.length : Int) then (if (rdOf false x8 (rd x7 x11) = true) then (spec_RegionConnected.l1 k x1 x7 x8 x9 x10 (wrap64 (x11 + 1))) else (if x9.length < 17592186044416 then (spec_RegionConnected.l1 k x1 x7 (x8.set ((rd x7 x11) : Int).toNat true) (x9 ++ [rd x7 x11]) x10 (wrap64 (x11 + 1))) else (none))) else (none)) else (none)) else (spec_RegionConnected.l1 k x1 x7 x8 x9 x10 (wrap64 (x11 + 1))))) else (if (wrap64 ((rd x7 x11) - (rd x9 x10))) = (-1) then (if x1 = 0 then (none) else (if (wrap64 (Int.tdiv (rd x7 x11) x1)) = (wrap64 (Int.tdiv (rd x9 x10) x1)) then (if 0 ≤ (rd x7 x11) then (if (rd x7 x11) < (x8.length : Int) then (if (rdOf false x8 (rd x7 x11) = true) then (spec_RegionConnected.l1 k x1 x7 x8 x9 x10 (wrap64 (x11 + 1))) else (if x9.length < 17592186044416 then (spec_RegionConnected.l1 k x1 x7 (x8.set ((rd x7 x11) : Int).toNat true) (x9 ++ [rd x7 x11]) x10 (wrap64 (x11 + 1))) else (none))) else (none)) else (none)) else (spec_RegionConnected.l1 k x1 x7 x8 x9 x10 (wrap64 (x11 + 1))))) else (spec_RegionConnected.l1 k x1 x7 x8 x9 x10 (wrap64 (x11 + 1))))))) else (none)) else (none)) else (none)) else (spec_RegionConnected.l0 k x1 x7 x8 x9 (wrap64 (x10 + 1)))
end
def spec_RegionConnected.f (k : Nat) (l0 : List Int) (a1 : Int) (a2 : Int) : Option (Bool) := (spec_RegionCells.f k l0 a1 a2).bind fun t233 => (if (t233.length : Int) = 0 then (some false) else (if 0 ≤ (l0.length : Int) then (if ((l0.length : Int) : Int).toNat ≤ 281474976710656 then ((some (List.replicate ((l0.length : Int) : Int).toNat false : List Bool)).bind fun y236 => (if 0 < (t233.length : Int) then (if 0 ≤ (rd t233 0) then (if (rd t233 0) < (y236.length : Int) then (spec_RegionConnected.l0 k a1 t233 (y236.set ((rd t233 0) : Int).toNat true) (([rd t233 0] : List Int)) 0) else (none)) else (none)) else (none))) else (none)) else (none)))
theorem spec_RegionConnected.mono_l : ∀ k, (∀ y0 y1 y2 y3 y4, LeO (spec_RegionConnected.l0 k y0 y1 y2 y3 y4) (spec_RegionConnected.l0 (k + 1) y0 y1 y2 y3 y4)) ∧ (∀ y0 y1 y2 y3 y4 y5, LeO (spec_RegionConnected.l1 k y0 y1 y2 y3 y4 y5) (spec_RegionConnected.l1 (k + 1) y0 y1 y2 y3 y4 y5))
  | 0 => ⟨fun _ _ _ _ _ r h => by simp [spec_RegionConnected.l0] at h, fun _ _ _ _ _ _ r h => by simp [spec_RegionConnected.l1] at h⟩
  | k + 1 => by
    obtain ⟨ih0, ih1⟩ := spec_RegionConnected.mono_l k
    refine ⟨?_, ?_⟩
    · intro y0 y1 y2 y3 y4
      unfold spec_RegionConnected.l0
      repeat' first
      | (with_reducible exact ih0 _ _ _ _ _)
      | (with_reducible exact ih1 _ _ _ _ _ _)
      | (with_reducible exact spec_RegionCells.mono _ _ _ _)
      | (with_reducible exact LeO.refl _)
      | (with_reducible exact LeO.none _)
      | (with_reducible refine LeO.ite ?_ ?_)
      | (with_reducible refine LeO.bind ?_ (fun _ => ?_))
      | exact ih0 _ _ _ _ _
      | exact ih1 _ _ _ _ _ _
      | exact spec_RegionCells.mono _ _ _ _
      | exact LeO.none _
      | refine LeO.ite ?_ ?_
      | refine LeO.bind ?_ (fun _ => ?_)
    · intro y0 y1 y2 y3 y4 y5
      unfold spec_RegionConnected.l1
      repeat' first
      | (with_reducible exact ih0 _ _ _ _ _)
      | (with_reducible exact ih1 _ _ _ _ _ _)
      | (with_reducible exact spec_RegionCells.mono _ _ _ _)
      | (with_reducible exact LeO.refl _)
      | (with_reducible exact LeO.none _)
      | (with_reducible refine LeO.ite ?_ ?_)
      | (with_reducible refine LeO.bind ?_ (fun _ => ?_))
      | exact ih0 _ _ _ _ _
      | exact ih1 _ _ _ _ _ _
      | exact spec_RegionCells.mono _ _ _ _
      | exact LeO.none _
      | refine LeO.ite ?_ ?_
      | refine LeO.bind ?_ (fun _ => ?_)
theorem spec_RegionConnected.mono : ∀ a0 a1 a2 k, LeO (spec_RegionConnected.f k a0 a1 a2) (spec_RegionConnected.f (k + 1) a0 a1 a2) := by
  intro a0 a1 a2 k
  obtain ⟨ih0, ih1⟩ := spec_RegionConnected.mono_l k
  unfold spec_RegionConnected.f
  repeat' first
      | (with_reducible exact ih0 _ _ _ _ _)
      | (with_reducible exact ih1 _ _ _ _ _ _)
      | (with_reducible exact spec_RegionCells.mono _ _ _ _)
      | (with_reducible exact LeO.refl _)
      | (with_reducible exact LeO.none _)
      | (with_reducible refine LeO.ite ?_ ?_)
      | (with_reducible refine LeO.bind ?_ (fun _ => ?_))
      | exact ih0 _ _ _ _ _
      | exact ih1 _ _ _ _ _ _
      | exact spec_RegionCells.mono _ _ _ _
      | exact LeO.none _
      | refine LeO.ite ?_ ?_
      | refine LeO.bind ?_ (fun _ => ?_)
set_option maxHeartbeats 8000000 in
set_option maxRecDepth 100000 in
theorem spec_RegionConnected.calls (k : Nat) (A0 : Option Addr) (c0 : Nat) (l0 : List Int) (a1 : Int) (a2 : Int) (r : Bool) (w : World) (hr0 : Kd.C (Kd.int .i64) w A0 l0.length l0) (hc0 : l0.length ≤ c0) (h : spec_RegionConnected.f k l0 a1 a2 = some r) :
    Calls Try.prog 25 #[.slice A0 l0.length c0, .int .i64 a1, .int .i64 a2] w fun e w' => e = .returned (.bool r) ∧ Below w.heap.size w w' := by
  have HR0 := Aside0.mk hr0
  have HC0 := Aside0.mk hc0
  clear hr0 hc0
  have HB := Aside0.mk (Below.refl w.heap.size w)
  have H : ((spec_RegionCells.f k l0 a1 a2).bind fun t233 => (if (t233.length : Int) = 0 then (some false) else (if 0 ≤ (l0.length : Int) then (if ((l0.length : Int) : Int).toNat ≤ 281474976710656 then ((some (List.replicate ((l0.length : Int) : Int).toNat false : List Bool)).bind fun y236 => (if 0 < (t233.length : Int) then (if 0 ≤ (rd t233 0) then (if (rd t233 0) < (y236.length : Int) then (spec_RegionConnected.l0 k a1 t233 (y236.set ((rd t233 0) : Int).toNat true) (([rd t233 0] : List Int)) 0) else (none)) else (none)) else (none))) else (none)) else (none)))) = some r := h
  clear h
  replace H := Option.bind_eq_some_iff.mp H
  obtain ⟨t233, A40, H⟩ := H
  replace H : (if (t233.length : Int) = 0 then (some false) else (if 0 ≤ (l0.length : Int) then (if ((l0.length : Int) : Int).toNat ≤ 281474976710656 then ((some (List.replicate ((l0.length : Int) : Int).toNat false : List Bool)).bind fun y236 => (if 0 < (t233.length : Int) then (if 0 ≤ (rd t233 0) then (if (rd t233 0) < (y236.length : Int) then (spec_RegionConnected.l0 k a1 t233 (y236.set ((rd t233 0) : Int).toNat true) (([rd t233 0] : List Int)) 0) else (none)) else (none)) else (none))) else (none)) else (none))) = some r := H
  have A4 := Aside0.mk A40
  clear A40
  by_cases c5 : (t233.length : Int) = 0
  · rw [if_pos c5] at H
    have c5b0 : ((t233.length : Int) == 0) = true := beq_iff_eq.mpr c5
    have c5b1 : ((t233.length : Int) != 0) = false := bne_eq_false_iff_eq.mpr c5
    clear c5
    obtain rfl := Option.some.inj H
    go_enter Try.func25, Try.ntmps25
    go_wp2_with (first | (go_at_call 76; (with_reducible refine (spec_RegionCells.calls k _ _ l0 a1 a2 t233 _ ?side1 ?side2 A4.out).mono ?_); (case side1 => repeat (first | exact HR0.out | (with_reducible refine Kd.C_alloc ?_ _) | (with_reducible refine Kd.C_drewN ?_ _) | (with_reducible refine Kd.C_drew ?_))); (case side2 => exact HC0.out); rintro e w6 ⟨v234, rfl, ho0, hb⟩; have n0_ := Aside0.mk (Kd.R_lower ho0 (below_size (by repeat (first | (with_reducible first | exact HB.out | apply below_alloc | apply pw_below_drewN | apply below_drew1) | exact HB.out)))); have n1_ := Aside0.mk (below_step (by repeat (first | (with_reducible first | exact HB.out | apply below_alloc | apply pw_below_drewN | apply below_drew1) | exact HB.out)) hb); clear HB; have HO235 := n0_; have HB := n1_; clear n0_ n1_; (try clear hb); (try clear hb2); (try clear hk); (try clear hi); (try clear ho0); obtain ⟨Ao7, co7, eo7⟩ := Kd.R_slice HO235.out; subst eo7))
    repeat (go_quiet (first | (go_at_call 76; (with_reducible refine (spec_RegionCells.calls k _ _ l0 a1 a2 t233 _ ?side1 ?side2 A4.out).mono ?_); (case side1 => repeat (first | exact HR0.out | (with_reducible refine Kd.C_alloc ?_ _) | (with_reducible refine Kd.C_drewN ?_ _) | (with_reducible refine Kd.C_drew ?_))); (case side2 => exact HC0.out); rintro e w6 ⟨v234, rfl, ho0, hb⟩; have n0_ := Aside0.mk (Kd.R_lower ho0 (below_size (by repeat (first | (with_reducible first | exact HB.out | apply below_alloc | apply pw_below_drewN | apply below_drew1) | exact HB.out)))); have n1_ := Aside0.mk (below_step (by repeat (first | (with_reducible first | exact HB.out | apply below_alloc | apply pw_below_drewN | apply below_drew1) | exact HB.out)) hb); clear HB; have HO235 := n0_; have HB := n1_; clear n0_ n1_; (try clear hb); (try clear hb2); (try clear hk); (try clear hi); (try clear ho0); obtain ⟨Ao7, co7, eo7⟩ := Kd.R_slice HO235.out; subst eo7)); try go_wp2_with (first | (go_at_call 76; (with_reducible refine (spec_RegionCells.calls k _ _ l0 a1 a2 t233 _ ?side1 ?side2 A4.out).mono ?_); (case side1 => repeat (first | exact HR0.out | (with_reducible refine Kd.C_alloc ?_ _) | (with_reducible refine Kd.C_drewN ?_ _) | (with_reducible refine Kd.C_drew ?_))); (case side2 => exact HC0.out); rintro e w6 ⟨v234, rfl, ho0, hb⟩; have n0_ := Aside0.mk (Kd.R_lower ho0 (below_size (by repeat (first | (with_reducible first | exact HB.out | apply below_alloc | apply pw_below_drewN | apply below_drew1) | exact HB.out)))); have n1_ := Aside0.mk (below_step (by repeat (first | (with_reducible first | exact HB.out | apply below_alloc | apply pw_below_drewN | apply below_drew1) | exact HB.out)) hb); clear HB; have HO235 := n0_; have HB := n1_; clear n0_ n1_; (try clear hb); (try clear hb2); (try clear hk); (try clear hi); (try clear ho0); obtain ⟨Ao7, co7, eo7⟩ := Kd.R_slice HO235.out; subst eo7)))
    go_ret
    exact ⟨by first | rfl | (simp [errW_none, errW_some] <;> rfl) | (simp [*, errW_none, errW_some] <;> rfl), by repeat (first | (with_reducible first | exact HB.out | apply below_alloc | apply pw_below_drewN | apply below_drew1) | exact HB.out)⟩
  · rw [if_neg c5] at H
    have c5b0 : ((t233.length : Int) == 0) = false := beq_eq_false_iff_ne.mpr c5
    have c5b1 : ((t233.length : Int) != 0) = true := bne_iff_ne.mpr c5
    have c5b2 : ¬ (t233 = []) := fun h_ => c5 (by rw [h_]; rfl)
    by_cases c8 : 0 ≤ (l0.length : Int)
    · rw [if_pos c8] at H
      have c8b0 := eq_true c8
      have c8b1 : decide (0 ≤ (l0.length : Int)) = true := decide_eq_true c8
      clear c8
      by_cases c9 : ((l0.length : Int) : Int).toNat ≤ 281474976710656
      · rw [if_pos c9] at H
        have c9b0 := eq_true c9
        have c9b1 : decide (((l0.length : Int) : Int).toNat ≤ 281474976710656) = true := decide_eq_true c9
        clear c9
        obtain ⟨y236, hy236⟩ : ∃ y_ : List Bool, y_ = (List.replicate ((l0.length : Int) : Int).toNat false) := ⟨_, rfl⟩
        replace H : (if 0 < (t233.length : Int) then (if 0 ≤ (rd t233 0) then (if (rd t233 0) < (y236.length : Int) then (spec_RegionConnected.l0 k a1 t233 (y236.set ((rd t233 0) : Int).toNat true) (([rd t233 0] : List Int)) 0) else (none)) else (none)) else (none)) = some r := by first | (rw [hy236]; with_reducible exact H) | (have H2_ := (Option.bind_some _ _).symm.trans H; rw [hy236]; with_reducible exact H2_) | (have H2_ := (Option.bind_some _ _).symm.trans H; with_reducible exact H2_) | with_reducible exact H | (rw [hy236]; exact H) | exact H
        have Ny236 := Aside0.mk hy236
        clear hy236
        by_cases c10 : 0 < (t233.length : Int)
        · rw [if_pos c10] at H
          have c10b0 : decide (0 < (t233.length : Int)) = true := decide_eq_true c10
          have c10b1 : decide (0 < t233.length) = true := decide_eq_true (by omega)
          clear c10
          obtain ⟨y240, hy240⟩ : ∃ y_ : List Int, y_ = (([rd t233 0] : List Int)) := ⟨_, rfl⟩
          replace H : (if 0 ≤ (rd t233 0) then (if (rd t233 0) < (y236.length : Int) then (spec_RegionConnected.l0 k a1 t233 (y236.set ((rd t233 0) : Int).toNat true) y240 0) else (none)) else (none)) = some r := by first | (rw [hy240]; with_reducible exact H) | (have H2_ := (Option.bind_some _ _).symm.trans H; rw [hy240]; with_reducible exact H2_) | (have H2_ := (Option.bind_some _ _).symm.trans H; with_reducible exact H2_) | with_reducible exact H | (rw [hy240]; exact H) | exact H
          have Ny240 := Aside0.mk hy240
          clear hy240
          by_cases c11 : 0 ≤ (rd t233 0)
          · rw [if_pos c11] at H
            have c11b0 : decide (0 ≤ (rd t233 0)) = true := decide_eq_true c11
            clear c11
            by_cases c12 : (rd t233 0) < (y236.length : Int)
            · rw [if_pos c12] at H
              have c12b0 : decide ((rd t233 0) < (y236.length : Int)) = true := decide_eq_true c12
              clear c12
              obtain ⟨y244, hy244⟩ : ∃ y_ : List Bool, y_ = (y236.set ((rd t233 0) : Int).toNat true) := ⟨_, rfl⟩
              replace H : (spec_RegionConnected.l0 k a1 t233 y244 y240 0) = some r := by first | (rw [hy244]; with_reducible exact H) | (have H2_ := (Option.bind_some _ _).symm.trans H; rw [hy244]; with_reducible exact H2_) | (have H2_ := (Option.bind_some _ _).symm.trans H; with_reducible exact H2_) | with_reducible exact H | (rw [hy244]; exact H) | exact H
              have Ny244 := Aside0.mk hy244
              clear hy244
              have H' := Aside0.mk H
              clear H
              go_enter Try.func25, Try.ntmps25
              go_wp2_with (first | (go_at_call 76; (with_reducible refine (spec_RegionCells.calls k _ _ l0 a1 a2 t233 _ ?side1 ?side2 A4.out).mono ?_); (case side1 => repeat (first | exact HR0.out | (with_reducible refine Kd.C_alloc ?_ _) | (with_reducible refine Kd.C_drewN ?_ _) | (with_reducible refine Kd.C_drew ?_))); (case side2 => exact HC0.out); rintro e w14 ⟨v234, rfl, ho0, hb⟩; have n0_ := Aside0.mk (Kd.R_lower ho0 (below_size (by repeat (first | (with_reducible first | exact HB.out | apply below_alloc | apply pw_below_drewN | apply below_drew1) | exact HB.out)))); have n1_ := Aside0.mk (below_step (by repeat (first | (with_reducible first | exact HB.out | apply below_alloc | apply pw_below_drewN | apply below_drew1) | exact HB.out)) hb); clear HB; have HO235 := n0_; have HB := n1_; clear n0_ n1_; (try clear hb); (try clear hb2); (try clear hk); (try clear hi); (try clear ho0); obtain ⟨Ao15, co15, eo15⟩ := Kd.R_slice HO235.out; subst eo15) | ((with_reducible refine gate_dst (N := 23) rfl ?_); refine Kd.R_make Kd.bool _ 4 rfl (N := 23) rfl 45 _ _ rfl (l0.length : Int) rfl rfl Try.underlying45 (.bool false) 1 info4 rfl (by decide) (by omega) false (ok := fun _ => True) (okp := fun _ => True) rfl (fun _ hk => hk) trivial (of_decide_eq_true (by first | (with_reducible assumption) | assumption)) (Nat.le_trans (Nat.mul_le_mul_right _ (of_decide_eq_true (by first | (with_reducible assumption) | assumption) : (l0.length : Int).toNat ≤ 281474976710656)) (by omega)) (Below.refl _ _) (Nat.le_refl _) ?_; intro v237 w16 ho17 hb hg_ hnew_; clear hg_ hnew_; (first | rw [← Ny236.out] at ho17 | (simp only [Int.reduceToNat] at ho17; rw [← Ny236.out] at ho17)); have n0_ := Aside0.mk (Kd.R_below (by (with_reducible repeat (first | apply Kd.R_alloc | apply Kd.R_drewN | apply Kd.R_drew)); exact HO235.out) hb); have n1_ := Aside0.mk (Kd.R_lower ho17 (below_size (by repeat (first | (with_reducible first | exact HB.out | apply below_alloc | apply pw_below_drewN | apply below_drew1) | exact HB.out)))); have n2_ := Aside0.mk (below_step (by repeat (first | (with_reducible first | exact HB.out | apply below_alloc | apply pw_below_drewN | apply below_drew1) | exact HB.out)) hb); clear HO235; clear HB; have HO235 := n0_; have HO238 := n1_; have HB := n2_; clear n0_ n1_ n2_; clear hb ho17; have p239 : 0 ≤ (0 : Int) := (by omega); have q239 : 0 < (t233.length : Int) := of_decide_eq_true (by first | (with_reducible assumption) | assumption); obtain ⟨ad239, e239, hx239_0⟩ := Kd.at_int (Kd.R_reads' HO235.out).2.2 0 p239 q239; cases e239; have qi239 : (0 < t233.length) = True := eq_true (by omega); (try rw [show ((0 : Int)).toNat = 0 from rfl] at hx239_0); (try rw [Addr.add_zero'] at hx239_0); replace p239 := eq_true p239; replace q239 := eq_true q239) | ((with_reducible refine gate_dst (N := 27) rfl ?_); refine Kd.R_lit (Kd.int .i64) _ 3 ?hg (N := 27) ?hd (xs := ([rd t233 0] : List Int)) (inner := [.int .i64 (rd t233 0)]) (ok := fun _ => True) (okp := fun _ => True) ?hr ?hp (fun _ hk => hk) trivial (Below.refl _ _) (Nat.le_refl _) (by simp) ?_; (case hd => rfl); (case hg => rfl); (case hr => first | (go_simp; done) | (go_simp; rfl)); (case hp => exact (Reps.one (show Kd.M (Kd.int .i64) _ _ _ (rd t233 0) [.int .i64 (rd t233 0)] from rfl) (Reps.none _ _))); intro v241 w18 ho19 hb hg_ hnew_; clear hg_ hnew_; (first | rw [← Ny240.out] at ho19 | (simp only [Int.reduceToNat] at ho19; rw [← Ny240.out] at ho19)); have n0_ := Aside0.mk (Kd.R_elder' (by (with_reducible repeat (first | apply Kd.R_alloc | apply Kd.R_drewN | apply Kd.R_drew)); exact HO235.out) (Kd.R_base ho19) hb); have n1_ := Aside0.mk (Kd.R_below (by (with_reducible repeat (first | apply Kd.R_alloc | apply Kd.R_drewN | apply Kd.R_drew)); exact HO238.out) hb); have n2_ := Aside0.mk (Kd.R_lower (Kd.R_new' ho19 (Kd.R_lt (by (with_reducible repeat (first | apply Kd.R_alloc | apply Kd.R_drewN | apply Kd.R_drew)); exact HO235.out))) (below_size (by repeat (first | (with_reducible first | exact HB.out | apply below_alloc | apply pw_below_drewN | apply below_drew1) | exact HB.out)))); have n3_ := Aside0.mk (below_step (by repeat (first | (with_reducible first | exact HB.out | apply below_alloc | apply pw_below_drewN | apply below_drew1) | exact HB.out)) hb); clear HO235; clear HO238; clear HB; have HO235 := n0_; have HO238 := n1_; have HO242 := n2_; have HB := n3_; clear n0_ n1_ n2_ n3_; clear hb ho19; have p243 : 0 ≤ (0 : Int) := (by omega); have q243 : 0 < (t233.length : Int) := of_decide_eq_true (by first | (with_reducible assumption) | assumption); obtain ⟨ad243, e243, hx243_0⟩ := Kd.at_int (Kd.R_reads' HO235.out).2.2 0 p243 q243; obtain rfl : ad239 = ad243 := (by injection e243); have qi243 : (0 < t233.length) = True := eq_true (by omega); (try rw [show ((0 : Int)).toNat = 0 from rfl] at hx243_0); (try rw [Addr.add_zero'] at hx243_0); replace p243 := eq_true p243; replace q243 := eq_true q243; have p13 : 0 ≤ ((rd t233 0) : Int) := of_decide_eq_true (by first | (with_reducible assumption) | assumption); have q13 : ((rd t233 0) : Int) < ((y236.length : Int) : Int) := of_decide_eq_true (by first | (with_reducible assumption) | assumption); obtain ⟨go13, co13, eo13, gb13, gl13, cl13, HG13⟩ := Kd.R_form HO238.out (by omega); (first | cases eo13 | (injection eo13 with ea_ en_ ec_; (first | subst ea_ | (injection ea_ with ea_; subst ea_)); subst ec_; clear en_)); have GB13 := Aside0.mk gb13; have GG13 := Aside0.mk HG13; clear gb13 gl13 HG13; obtain ⟨hx13_0, hf13_0⟩ := Kd.R_celln false HO238.out ((rd t233 0) : Int) p13 q13; replace p13 := eq_true p13; replace q13 := eq_true q13; obtain ⟨hy20_, hz20_⟩ := Kd.R_celln false HO238.out ((rd t233 0) : Int) (of_decide_eq_true (by first | (with_reducible assumption) | assumption)) (of_decide_eq_true (by first | (with_reducible assumption) | assumption)); have HP20 := Kd.R_putg HO238.out ((rd t233 0) : Int) true) | ((with_reducible refine gate_store (t := 4) (p := 32) rfl ?_); (try (rw [drewN_self w18]; generalize hq_ : World.drewN w18 _ = w18; have n0_ := Aside0.mk (Kd.R_at hq_ HO235.out); have n1_ := Aside0.mk (Kd.R_at hq_ HO238.out); have n2_ := Aside0.mk (Kd.R_at hq_ HO242.out); have n3_ := Aside0.mk (below_at hq_ HB.out); clear hq_ HO235 HO238 HO242 HB; have HO235 := n0_; have HO238 := n1_; have HO242 := n2_; have HB := n3_; clear n0_ n1_ n2_ n3_; (try (obtain ⟨hy20_, hz20_⟩ := Kd.R_celln false HO238.out ((rd t233 0) : Int) (of_decide_eq_true (by first | (with_reducible assumption) | assumption)) (of_decide_eq_true (by first | (with_reducible assumption) | assumption)))); (try (have HP20 := Kd.R_putg HO238.out ((rd t233 0) : Int) true)))); refine store_event (t := 4) (p := 32) (v := ?vo_w21) (w1 := (w18.setCell ⟨go13, ((rd t233 0) : Int).toNat, none⟩ (.bool true))) ?hg ?ho ?hn ?hr ?_; (case ho => rfl); (case hg => rfl); (case hn => rfl); (case hr => first | (go_simp; done) | (go_simp; rfl)); intro w21 hw; have hg : w18.grownBy w21 (some go13) := (by rw [hw]; exact HP20.2); have hp_ : Kd.R Kd.bool 4 w21 w.heap.size (fun _ => True) (.slice (some ⟨go13, 0, none⟩) y236.length co13) y244 := (by rw [hw, Ny244.out]; exact HP20.1); clear HP20; have n0_ := Aside0.mk (Kd.R_over' (v := (.slice (some ⟨go13, 0, none⟩) y236.length co13)) (by (with_reducible repeat (first | apply Kd.R_alloc | apply Kd.R_drewN | apply Kd.R_drew)); exact HO235.out) (Kd.R_typed HO238.out) (by decide) hg); have n1_ := Aside0.mk (hp_); have n2_ := Aside0.mk (Kd.R_over' (v := (.slice (some ⟨go13, 0, none⟩) y236.length co13)) (by (with_reducible repeat (first | apply Kd.R_alloc | apply Kd.R_drewN | apply Kd.R_drew)); exact HO242.out) (Kd.R_typed HO238.out) (by decide) hg); have n3_ := Aside0.mk ((by rw [hw]; exact below_set (HB.out) GB13.out : Below w.heap.size w w21)); clear HO235; clear HO238; clear HO242; clear HB; have HO235 := n0_; have HO238 := n1_; have HO242 := n2_; have HB := n3_; clear n0_ n1_ n2_ n3_; clear hg hw hp_))
              repeat (go_quiet (first | (go_at_call 76; (with_reducible refine (spec_RegionCells.calls k _ _ l0 a1 a2 t233 _ ?side1 ?side2 A4.out).mono ?_); (case side1 => repeat (first | exact HR0.out | (with_reducible refine Kd.C_alloc ?_ _) | (with_reducible refine Kd.C_drewN ?_ _) | (with_reducible refine Kd.C_drew ?_))); (case side2 => exact HC0.out); rintro e w14 ⟨v234, rfl, ho0, hb⟩; have n0_ := Aside0.mk (Kd.R_lower ho0 (below_size (by repeat (first | (with_reducible first | exact HB.out | apply below_alloc | apply pw_below_drewN | apply below_drew1) | exact HB.out)))); have n1_ := Aside0.mk (below_step (by repeat (first | (with_reducible first | exact HB.out | apply below_alloc | apply pw_below_drewN | apply below_drew1) | exact HB.out)) hb); clear HB; have HO235 := n0_; have HB := n1_; clear n0_ n1_; (try clear hb); (try clear hb2); (try clear hk); (try clear hi); (try clear ho0); obtain ⟨Ao15, co15, eo15⟩ := Kd.R_slice HO235.out; subst eo15) | ((with_reducible refine gate_dst (N := 23) rfl ?_); refine Kd.R_make Kd.bool _ 4 rfl (N := 23) rfl 45 _ _ rfl (l0.length : Int) rfl rfl Try.underlying45 (.bool false) 1 info4 rfl (by decide) (by omega) false (ok := fun _ => True) (okp := fun _ => True) rfl (fun _ hk => hk) trivial (of_decide_eq_true (by first | (with_reducible assumption) | assumption)) (Nat.le_trans (Nat.mul_le_mul_right _ (of_decide_eq_true (by first | (with_reducible assumption) | assumption) : (l0.length : Int).toNat ≤ 281474976710656)) (by omega)) (Below.refl _ _) (Nat.le_refl _) ?_; intro v237 w16 ho17 hb hg_ hnew_; clear hg_ hnew_; (first | rw [← Ny236.out] at ho17 | (simp only [Int.reduceToNat] at ho17; rw [← Ny236.out] at ho17)); have n0_ := Aside0.mk (Kd.R_below (by (with_reducible repeat (first | apply Kd.R_alloc | apply Kd.R_drewN | apply Kd.R_drew)); exact HO235.out) hb); have n1_ := Aside0.mk (Kd.R_lower ho17 (below_size (by repeat (first | (with_reducible first | exact HB.out | apply below_alloc | apply pw_below_drewN | apply below_drew1) | exact HB.out)))); have n2_ := Aside0.mk (below_step (by repeat (first | (with_reducible first | exact HB.out | apply below_alloc | apply pw_below_drewN | apply below_drew1) | exact HB.out)) hb); clear HO235; clear HB; have HO235 := n0_; have HO238 := n1_; have HB := n2_; clear n0_ n1_ n2_; clear hb ho17; have p239 : 0 ≤ (0 : Int) := (by omega); have q239 : 0 < (t233.length : Int) := of_decide_eq_true (by first | (with_reducible assumption) | assumption); obtain ⟨ad239, e239, hx239_0⟩ := Kd.at_int (Kd.R_reads' HO235.out).2.2 0 p239 q239; cases e239; have qi239 : (0 < t233.length) = True := eq_true (by omega); (try rw [show ((0 : Int)).toNat = 0 from rfl] at hx239_0); (try rw [Addr.add_zero'] at hx239_0); replace p239 := eq_true p239; replace q239 := eq_true q239) | ((with_reducible refine gate_dst (N := 27) rfl ?_); refine Kd.R_lit (Kd.int .i64) _ 3 ?hg (N := 27) ?hd (xs := ([rd t233 0] : List Int)) (inner := [.int .i64 (rd t233 0)]) (ok := fun _ => True) (okp := fun _ => True) ?hr ?hp (fun _ hk => hk) trivial (Below.refl _ _) (Nat.le_refl _) (by simp) ?_; (case hd => rfl); (case hg => rfl); (case hr => first | (go_simp; done) | (go_simp; rfl)); (case hp => exact (Reps.one (show Kd.M (Kd.int .i64) _ _ _ (rd t233 0) [.int .i64 (rd t233 0)] from rfl) (Reps.none _ _))); intro v241 w18 ho19 hb hg_ hnew_; clear hg_ hnew_; (first | rw [← Ny240.out] at ho19 | (simp only [Int.reduceToNat] at ho19; rw [← Ny240.out] at ho19)); have n0_ := Aside0.mk (Kd.R_elder' (by (with_reducible repeat (first | apply Kd.R_alloc | apply Kd.R_drewN | apply Kd.R_drew)); exact HO235.out) (Kd.R_base ho19) hb); have n1_ := Aside0.mk (Kd.R_below (by (with_reducible repeat (first | apply Kd.R_alloc | apply Kd.R_drewN | apply Kd.R_drew)); exact HO238.out) hb); have n2_ := Aside0.mk (Kd.R_lower (Kd.R_new' ho19 (Kd.R_lt (by (with_reducible repeat (first | apply Kd.R_alloc | apply Kd.R_drewN | apply Kd.R_drew)); exact HO235.out))) (below_size (by repeat (first | (with_reducible first | exact HB.out | apply below_alloc | apply pw_below_drewN | apply below_drew1) | exact HB.out)))); have n3_ := Aside0.mk (below_step (by repeat (first | (with_reducible first | exact HB.out | apply below_alloc | apply pw_below_drewN | apply below_drew1) | exact HB.out)) hb); clear HO235; clear HO238; clear HB; have HO235 := n0_; have HO238 := n1_; have HO242 := n2_; have HB := n3_; clear n0_ n1_ n2_ n3_; clear hb ho19; have p243 : 0 ≤ (0 : Int) := (by omega); have q243 : 0 < (t233.length : Int) := of_decide_eq_true (by first | (with_reducible assumption) | assumption); obtain ⟨ad243, e243, hx243_0⟩ := Kd.at_int (Kd.R_reads' HO235.out).2.2 0 p243 q243; obtain rfl : ad239 = ad243 := (by injection e243); have qi243 : (0 < t233.length) = True := eq_true (by omega); (try rw [show ((0 : Int)).toNat = 0 from rfl] at hx243_0); (try rw [Addr.add_zero'] at hx243_0); replace p243 := eq_true p243; replace q243 := eq_true q243; have p13 : 0 ≤ ((rd t233 0) : Int) := of_decide_eq_true (by first | (with_reducible assumption) | assumption); have q13 : ((rd t233 0) : Int) < ((y236.length : Int) : Int) := of_decide_eq_true (by first | (with_reducible assumption) | assumption); obtain ⟨go13, co13, eo13, gb13, gl13, cl13, HG13⟩ := Kd.R_form HO238.out (by omega); (first | cases eo13 | (injection eo13 with ea_ en_ ec_; (first | subst ea_ | (injection ea_ with ea_; subst ea_)); subst ec_; clear en_)); have GB13 := Aside0.mk gb13; have GG13 := Aside0.mk HG13; clear gb13 gl13 HG13; obtain ⟨hx13_0, hf13_0⟩ := Kd.R_celln false HO238.out ((rd t233 0) : Int) p13 q13; replace p13 := eq_true p13; replace q13 := eq_true q13; obtain ⟨hy20_, hz20_⟩ := Kd.R_celln false HO238.out ((rd t233 0) : Int) (of_decide_eq_true (by first | (with_reducible assumption) | assumption)) (of_decide_eq_true (by first | (with_reducible assumption) | assumption)); have HP20 := Kd.R_putg HO238.out ((rd t233 0) : Int) true) | ((with_reducible refine gate_store (t := 4) (p := 32) rfl ?_); (try (rw [drewN_self w18]; generalize hq_ : World.drewN w18 _ = w18; have n0_ := Aside0.mk (Kd.R_at hq_ HO235.out); have n1_ := Aside0.mk (Kd.R_at hq_ HO238.out); have n2_ := Aside0.mk (Kd.R_at hq_ HO242.out); have n3_ := Aside0.mk (below_at hq_ HB.out); clear hq_ HO235 HO238 HO242 HB; have HO235 := n0_; have HO238 := n1_; have HO242 := n2_; have HB := n3_; clear n0_ n1_ n2_ n3_; (try (obtain ⟨hy20_, hz20_⟩ := Kd.R_celln false HO238.out ((rd t233 0) : Int) (of_decide_eq_true (by first | (with_reducible assumption) | assumption)) (of_decide_eq_true (by first | (with_reducible assumption) | assumption)))); (try (have HP20 := Kd.R_putg HO238.out ((rd t233 0) : Int) true)))); refine store_event (t := 4) (p := 32) (v := ?vo_w21) (w1 := (w18.setCell ⟨go13, ((rd t233 0) : Int).toNat, none⟩ (.bool true))) ?hg ?ho ?hn ?hr ?_; (case ho => rfl); (case hg => rfl); (case hn => rfl); (case hr => first | (go_simp; done) | (go_simp; rfl)); intro w21 hw; have hg : w18.grownBy w21 (some go13) := (by rw [hw]; exact HP20.2); have hp_ : Kd.R Kd.bool 4 w21 w.heap.size (fun _ => True) (.slice (some ⟨go13, 0, none⟩) y236.length co13) y244 := (by rw [hw, Ny244.out]; exact HP20.1); clear HP20; have n0_ := Aside0.mk (Kd.R_over' (v := (.slice (some ⟨go13, 0, none⟩) y236.length co13)) (by (with_reducible repeat (first | apply Kd.R_alloc | apply Kd.R_drewN | apply Kd.R_drew)); exact HO235.out) (Kd.R_typed HO238.out) (by decide) hg); have n1_ := Aside0.mk (hp_); have n2_ := Aside0.mk (Kd.R_over' (v := (.slice (some ⟨go13, 0, none⟩) y236.length co13)) (by (with_reducible repeat (first | apply Kd.R_alloc | apply Kd.R_drewN | apply Kd.R_drew)); exact HO242.out) (Kd.R_typed HO238.out) (by decide) hg); have n3_ := Aside0.mk ((by rw [hw]; exact below_set (HB.out) GB13.out : Below w.heap.size w w21)); clear HO235; clear HO238; clear HO242; clear HB; have HO235 := n0_; have HO238 := n1_; have HO242 := n2_; have HB := n3_; clear n0_ n1_ n2_ n3_; clear hg hw hp_)); try go_wp2_with (first | (go_at_call 76; (with_reducible refine (spec_RegionCells.calls k _ _ l0 a1 a2 t233 _ ?side1 ?side2 A4.out).mono ?_); (case side1 => repeat (first | exact HR0.out | (with_reducible refine Kd.C_alloc ?_ _) | (with_reducible refine Kd.C_drewN ?_ _) | (with_reducible refine Kd.C_drew ?_))); (case side2 => exact HC0.out); rintro e w14 ⟨v234, rfl, ho0, hb⟩; have n0_ := Aside0.mk (Kd.R_lower ho0 (below_size (by repeat (first | (with_reducible first | exact HB.out | apply below_alloc | apply pw_below_drewN | apply below_drew1) | exact HB.out)))); have n1_ := Aside0.mk (below_step (by repeat (first | (with_reducible first | exact HB.out | apply below_alloc | apply pw_below_drewN | apply below_drew1) | exact HB.out)) hb); clear HB; have HO235 := n0_; have HB := n1_; clear n0_ n1_; (try clear hb); (try clear hb2); (try clear hk); (try clear hi); (try clear ho0); obtain ⟨Ao15, co15, eo15⟩ := Kd.R_slice HO235.out; subst eo15) | ((with_reducible refine gate_dst (N := 23) rfl ?_); refine Kd.R_make Kd.bool _ 4 rfl (N := 23) rfl 45 _ _ rfl (l0.length : Int) rfl rfl Try.underlying45 (.bool false) 1 info4 rfl (by decide) (by omega) false (ok := fun _ => True) (okp := fun _ => True) rfl (fun _ hk => hk) trivial (of_decide_eq_true (by first | (with_reducible assumption) | assumption)) (Nat.le_trans (Nat.mul_le_mul_right _ (of_decide_eq_true (by first | (with_reducible assumption) | assumption) : (l0.length : Int).toNat ≤ 281474976710656)) (by omega)) (Below.refl _ _) (Nat.le_refl _) ?_; intro v237 w16 ho17 hb hg_ hnew_; clear hg_ hnew_; (first | rw [← Ny236.out] at ho17 | (simp only [Int.reduceToNat] at ho17; rw [← Ny236.out] at ho17)); have n0_ := Aside0.mk (Kd.R_below (by (with_reducible repeat (first | apply Kd.R_alloc | apply Kd.R_drewN | apply Kd.R_drew)); exact HO235.out) hb); have n1_ := Aside0.mk (Kd.R_lower ho17 (below_size (by repeat (first | (with_reducible first | exact HB.out | apply below_alloc | apply pw_below_drewN | apply below_drew1) | exact HB.out)))); have n2_ := Aside0.mk (below_step (by repeat (first | (with_reducible first | exact HB.out | apply below_alloc | apply pw_below_drewN | apply below_drew1) | exact HB.out)) hb); clear HO235; clear HB; have HO235 := n0_; have HO238 := n1_; have HB := n2_; clear n0_ n1_ n2_; clear hb ho17; have p239 : 0 ≤ (0 : Int) := (by omega); have q239 : 0 < (t233.length : Int) := of_decide_eq_true (by first | (with_reducible assumption) | assumption); obtain ⟨ad239, e239, hx239_0⟩ := Kd.at_int (Kd.R_reads' HO235.out).2.2 0 p239 q239; cases e239; have qi239 : (0 < t233.length) = True := eq_true (by omega); (try rw [show ((0 : Int)).toNat = 0 from rfl] at hx239_0); (try rw [Addr.add_zero'] at hx239_0); replace p239 := eq_true p239; replace q239 := eq_true q239) | ((with_reducible refine gate_dst (N := 27) rfl ?_); refine Kd.R_lit (Kd.int .i64) _ 3 ?hg (N := 27) ?hd (xs := ([rd t233 0] : List Int)) (inner := [.int .i64 (rd t233 0)]) (ok := fun _ => True) (okp := fun _ => True) ?hr ?hp (fun _ hk => hk) trivial (Below.refl _ _) (Nat.le_refl _) (by simp) ?_; (case hd => rfl); (case hg => rfl); (case hr => first | (go_simp; done) | (go_simp; rfl)); (case hp => exact (Reps.one (show Kd.M (Kd.int .i64) _ _ _ (rd t233 0) [.int .i64 (rd t233 0)] from rfl) (Reps.none _ _))); intro v241 w18 ho19 hb hg_ hnew_; clear hg_ hnew_; (first | rw [← Ny240.out] at ho19 | (simp only [Int.reduceToNat] at ho19; rw [← Ny240.out] at ho19)); have n0_ := Aside0.mk (Kd.R_elder' (by (with_reducible repeat (first | apply Kd.R_alloc | apply Kd.R_drewN | apply Kd.R_drew)); exact HO235.out) (Kd.R_base ho19) hb); have n1_ := Aside0.mk (Kd.R_below (by (with_reducible repeat (first | apply Kd.R_alloc | apply Kd.R_drewN | apply Kd.R_drew)); exact HO238.out) hb); have n2_ := Aside0.mk (Kd.R_lower (Kd.R_new' ho19 (Kd.R_lt (by (with_reducible repeat (first | apply Kd.R_alloc | apply Kd.R_drewN | apply Kd.R_drew)); exact HO235.out))) (below_size (by repeat (first | (with_reducible first | exact HB.out | apply below_alloc | apply pw_below_drewN | apply below_drew1) | exact HB.out)))); have n3_ := Aside0.mk (below_step (by repeat (first | (with_reducible first | exact HB.out | apply below_alloc | apply pw_below_drewN | apply below_drew1) | exact HB.out)) hb); clear HO235; clear HO238; clear HB; have HO235 := n0_; have HO238 := n1_; have HO242 := n2_; have HB := n3_; clear n0_ n1_ n2_ n3_; clear hb ho19; have p243 : 0 ≤ (0 : Int) := (by omega); have q243 : 0 < (t233.length : Int) := of_decide_eq_true (by first | (with_reducible assumption) | assumption); obtain ⟨ad243, e243, hx243_0⟩ := Kd.at_int (Kd.R_reads' HO235.out).2.2 0 p243 q243; obtain rfl : ad239 = ad243 := (by injection e243); have qi243 : (0 < t233.length) = True := eq_true (by omega); (try rw [show ((0 : Int)).toNat = 0 from rfl] at hx243_0); (try rw [Addr.add_zero'] at hx243_0); replace p243 := eq_true p243; replace q243 := eq_true q243; have p13 : 0 ≤ ((rd t233 0) : Int) := of_decide_eq_true (by first | (with_reducible assumption) | assumption); have q13 : ((rd t233 0) : Int) < ((y236.length : Int) : Int) := of_decide_eq_true (by first | (with_reducible assumption) | assumption); obtain ⟨go13, co13, eo13, gb13, gl13, cl13, HG13⟩ := Kd.R_form HO238.out (by omega); (first | cases eo13 | (injection eo13 with ea_ en_ ec_; (first | subst ea_ | (injection ea_ with ea_; subst ea_)); subst ec_; clear en_)); have GB13 := Aside0.mk gb13; have GG13 := Aside0.mk HG13; clear gb13 gl13 HG13; obtain ⟨hx13_0, hf13_0⟩ := Kd.R_celln false HO238.out ((rd t233 0) : Int) p13 q13; replace p13 := eq_true p13; replace q13 := eq_true q13; obtain ⟨hy20_, hz20_⟩ := Kd.R_celln false HO238.out ((rd t233 0) : Int) (of_decide_eq_true (by first | (with_reducible assumption) | assumption)) (of_decide_eq_true (by first | (with_reducible assumption) | assumption)); have HP20 := Kd.R_putg HO238.out ((rd t233 0) : Int) true) | ((with_reducible refine gate_store (t := 4) (p := 32) rfl ?_); (try (rw [drewN_self w18]; generalize hq_ : World.drewN w18 _ = w18; have n0_ := Aside0.mk (Kd.R_at hq_ HO235.out); have n1_ := Aside0.mk (Kd.R_at hq_ HO238.out); have n2_ := Aside0.mk (Kd.R_at hq_ HO242.out); have n3_ := Aside0.mk (below_at hq_ HB.out); clear hq_ HO235 HO238 HO242 HB; have HO235 := n0_; have HO238 := n1_; have HO242 := n2_; have HB := n3_; clear n0_ n1_ n2_ n3_; (try (obtain ⟨hy20_, hz20_⟩ := Kd.R_celln false HO238.out ((rd t233 0) : Int) (of_decide_eq_true (by first | (with_reducible assumption) | assumption)) (of_decide_eq_true (by first | (with_reducible assumption) | assumption)))); (try (have HP20 := Kd.R_putg HO238.out ((rd t233 0) : Int) true)))); refine store_event (t := 4) (p := 32) (v := ?vo_w21) (w1 := (w18.setCell ⟨go13, ((rd t233 0) : Int).toNat, none⟩ (.bool true))) ?hg ?ho ?hn ?hr ?_; (case ho => rfl); (case hg => rfl); (case hn => rfl); (case hr => first | (go_simp; done) | (go_simp; rfl)); intro w21 hw; have hg : w18.grownBy w21 (some go13) := (by rw [hw]; exact HP20.2); have hp_ : Kd.R Kd.bool 4 w21 w.heap.size (fun _ => True) (.slice (some ⟨go13, 0, none⟩) y236.length co13) y244 := (by rw [hw, Ny244.out]; exact HP20.1); clear HP20; have n0_ := Aside0.mk (Kd.R_over' (v := (.slice (some ⟨go13, 0, none⟩) y236.length co13)) (by (with_reducible repeat (first | apply Kd.R_alloc | apply Kd.R_drewN | apply Kd.R_drew)); exact HO235.out) (Kd.R_typed HO238.out) (by decide) hg); have n1_ := Aside0.mk (hp_); have n2_ := Aside0.mk (Kd.R_over' (v := (.slice (some ⟨go13, 0, none⟩) y236.length co13)) (by (with_reducible repeat (first | apply Kd.R_alloc | apply Kd.R_drewN | apply Kd.R_drew)); exact HO242.out) (Kd.R_typed HO238.out) (by decide) hg); have n3_ := Aside0.mk ((by rw [hw]; exact below_set (HB.out) GB13.out : Below w.heap.size w w21)); clear HO235; clear HO238; clear HO242; clear HB; have HO235 := n0_; have HO238 := n1_; have HO242 := n2_; have HB := n3_; clear n0_ n1_ n2_ n3_; clear hg hw hp_)))
              go_loopg [9, 10] k (fun kq v9 v10 w' => ∃ (x8_1 : List Bool) (x9_1 : List Int) (x10_1 : Int), v10 = .int .i64 x10_1 ∧ Aside0 (spec_RegionConnected.l0 kq a1 t233 x8_1 x9_1 x10_1 = some r) ∧ Aside0 (kq ≤ k) ∧ Aside0 (Kd.R (Kd.int .i64) 3 w' w.heap.size (fun k_ => some k_ ≠ (v9 : Value).ownBlock) (.slice (some ad239) t233.length co15) t233) ∧ Aside0 (Kd.R Kd.bool 4 w' w.heap.size (fun _ => True) (.slice (some ⟨go13, 0, none⟩) y236.length co13) x8_1) ∧ Aside0 (Kd.R (Kd.int .i64) 3 w' w.heap.size (fun k_ => some k_ ≠ ((.slice (some ad239) t233.length co15) : Value).ownBlock) v9 x9_1) ∧ Aside0 (Below w.heap.size w w'))
              case atStart => exact ⟨(y244), (y240), (0), (by first | rfl | (simp; done) | (simp [*]; done)), H', ⟨Nat.le_refl _⟩, ⟨by (with_reducible repeat (first | apply Kd.R_alloc | apply Kd.R_drewN | apply Kd.R_drew)); exact Kd.R_mono HO235.out (fun _ hk => hk.2)⟩, ⟨by (with_reducible repeat (first | apply Kd.R_alloc | apply Kd.R_drewN | apply Kd.R_drew)); exact HO238.out⟩, ⟨by (with_reducible repeat (first | apply Kd.R_alloc | apply Kd.R_drewN | apply Kd.R_drew)); exact Kd.R_mono HO242.out (fun _ hk => hk.2)⟩, ⟨by repeat (first | (with_reducible first | exact HB.out | apply below_alloc | apply pw_below_drewN | apply below_drew1) | exact HB.out)⟩⟩
              case round =>
                clear H'
                try clear c1
                try clear p1
                try clear q1
                try clear hx1
                try clear c2
                try clear p2
                try clear q2
                try clear hx2
                try clear qi2
                try clear c5
                try clear c5b0
                try clear c5b1
                try clear c5b2
                try clear c8
                try clear c8b0
                try clear c8b1
                try clear c9
                try clear c9b0
                try clear c9b1
                try clear c10
                try clear c10b0
                try clear c10b1
                try clear c11
                try clear c11b0
                try clear c12
                try clear c12b0
                try clear p13
                try clear q13
                try clear hx13
                try clear hf13
                try clear hx13_0
                try clear hx239_0
                try clear hx243_0
                try clear p13
                try clear p239
                try clear p243
                try clear q13
                try clear q239
                try clear q243
                obtain ⟨x8_1, x9_1, x10_1, rfl, HA, HK1, HO_7, HO_8, HO_9, HB⟩ := hrel
                have hl8_1 := (Kd.R_reads' HO_8.out).1
                rw [hl8_1] at HO_8
                (try simp only [hl8_1])
                (try simp only [hl8_1] at HO_7)
                (try simp only [hl8_1] at HO_9)
                cases gk with
                | zero => exact absurd HA.out (by simp [spec_RegionConnected.l0])
                | succ k1 =>
                  have H := HA.out
                  clear HA
                  simp only [spec_RegionConnected.l0] at H
                  by_cases c22 : x10_1 < (x9_1.length : Int)
                  · rw [if_pos c22] at H
                    have c22b0 : decide (x10_1 < (x9_1.length : Int)) = true := decide_eq_true c22
                    clear c22
                    have H' := Aside0.mk H
                    clear H
                    obtain ⟨Ao23, co23, eo23⟩ := Kd.R_slice HO_9.out
                    subst eo23
                    go_wp2
                    repeat (go_quiet (fail); try go_wp2)
                    go_loopg [9, 11] k1 (fun kq v9 v11 w' => ∃ (x8_2 : List Bool) (x9_2 : List Int) (x11_2 : Int), v11 = .int .i64 x11_2 ∧ Aside0 (spec_RegionConnected.l1 kq a1 t233 x8_2 x9_2 x10_1 x11_2 = some r) ∧ Aside0 (kq ≤ k1) ∧ Aside0 (Kd.R (Kd.int .i64) 3 w' w.heap.size (fun k_ => some k_ ≠ (v9 : Value).ownBlock) (.slice (some ad239) t233.length co15) t233) ∧ Aside0 (Kd.R Kd.bool 4 w' w.heap.size (fun _ => True) (.slice (some ⟨go13, 0, none⟩) x8_1.length co13) x8_2) ∧ Aside0 (Kd.R (Kd.int .i64) 3 w' w.heap.size (fun k_ => some k_ ≠ ((.slice (some ad239) t233.length co15) : Value).ownBlock) v9 x9_2) ∧ Aside0 (Below w.heap.size w w'))
                    case atStart => exact ⟨(x8_1), (x9_1), (0), (by first | rfl | (simp; done) | (simp [*]; done)), H', ⟨Nat.le_refl _⟩, ⟨by (try simp only [hl8_1]); (with_reducible repeat (first | apply Kd.R_alloc | apply Kd.R_drewN | apply Kd.R_drew)); exact HO_7.out⟩, ⟨by (try simp only [hl8_1]); (with_reducible repeat (first | apply Kd.R_alloc | apply Kd.R_drewN | apply Kd.R_drew)); exact HO_8.out⟩, ⟨by (try simp only [hl8_1]); (with_reducible repeat (first | apply Kd.R_alloc | apply Kd.R_drewN | apply Kd.R_drew)); exact HO_9.out⟩, ⟨by repeat (first | (with_reducible first | exact HB.out | apply below_alloc | apply pw_below_drewN | apply below_drew1) | exact HB.out)⟩⟩
                    case round =>
                      clear H'
                      try clear c1
                      try clear p1
                      try clear q1
                      try clear hx1
                      try clear c2
                      try clear p2
                      try clear q2
                      try clear hx2
                      try clear qi2
                      try clear c5
                      try clear c5b0
                      try clear c5b1
                      try clear c5b2
                      try clear c8
                      try clear c8b0
                      try clear c8b1
                      try clear c9
                      try clear c9b0
                      try clear c9b1
                      try clear c10
                      try clear c10b0
                      try clear c10b1
                      try clear c11
                      try clear c11b0
                      try clear c12
                      try clear c12b0
                      try clear p13
                      try clear q13
                      try clear hx13
                      try clear hf13
                      try clear c22
                      try clear c22b0
                      try clear p23
                      try clear q23
                      try clear hx23
                      try clear qi23
                      try clear hx13_0
                      try clear hx239_0
                      try clear hx243_0
                      try clear p1
                      try clear p13
                      try clear p2
                      try clear p239
                      try clear p243
                      try clear q1
                      try clear q13
                      try clear q2
                      try clear q239
                      try clear q243
                      obtain ⟨x8_2, x9_2, x11_2, rfl, HA, HK2, HO_7, HO_8, HO_9, HB⟩ := hrel
                      have hl8_2 := (Kd.R_reads' HO_8.out).1
                      rw [hl8_2] at HO_8
                      (try simp only [hl8_2])
                      (try simp only [hl8_2] at HO_7)
                      (try simp only [hl8_2] at HO_9)
                      cases gk with
                      | zero => exact absurd HA.out (by simp [spec_RegionConnected.l1])
                      | succ k2 =>
                        have H := HA.out
                        clear HA
                        simp only [spec_RegionConnected.l1] at H
                        by_cases c24 : x11_2 < (t233.length : Int)
                        · rw [if_pos c24] at H
                          have c24b0 : decide (x11_2 < (t233.length : Int)) = true := decide_eq_true c24
                          clear c24
                          by_cases c25 : 0 ≤ x11_2
                          · rw [if_pos c25] at H
                            have c25b0 : decide (0 ≤ x11_2) = true := decide_eq_true c25
                            clear c25
                            by_cases c26 : 0 ≤ x10_1
                            · rw [if_pos c26] at H
                              have c26b0 : decide (0 ≤ x10_1) = true := decide_eq_true c26
                              clear c26
                              by_cases c27 : x10_1 < (x9_2.length : Int)
                              · rw [if_pos c27] at H
                                have c27b0 : decide (x10_1 < (x9_2.length : Int)) = true := decide_eq_true c27
                                clear c27
                                by_cases c28 : (wrap64 ((rd t233 x11_2) - (rd x9_2 x10_1))) = a1
                                · rw [if_pos c28] at H
                                  have c28b0 : ((wrap64 ((rd t233 x11_2) - (rd x9_2 x10_1))) == a1) = true := beq_iff_eq.mpr c28
                                  have c28b1 : ((wrap64 ((rd t233 x11_2) - (rd x9_2 x10_1))) != a1) = false := bne_eq_false_iff_eq.mpr c28
                                  clear c28
                                  by_cases c29 : 0 ≤ (rd t233 x11_2)
                                  · rw [if_pos c29] at H
                                    have c29b0 : decide (0 ≤ (rd t233 x11_2)) = true := decide_eq_true c29
                                    clear c29
                                    by_cases c30 : (rd t233 x11_2) < (x8_2.length : Int)
                                    · rw [if_pos c30] at H
                                      have c30b0 : decide ((rd t233 x11_2) < (x8_2.length : Int)) = true := decide_eq_true c30
                                      clear c30
                                      obtain ⟨bq31, hbq31⟩ : ∃ b_ : Bool, b_ = (rdOf false x8_2 (rd t233 x11_2)) := ⟨_, rfl⟩
                                      replace H : (if (bq31 = true) then (spec_RegionConnected.l1 k2 a1 t233 x8_2 x9_2 x10_1 (wrap64 (x11_2 + 1))) else (if x9_2.length < 17592186044416 then (spec_RegionConnected.l1 k2 a1 t233 (x8_2.set ((rd t233 x11_2) : Int).toNat true) (x9_2 ++ [rd t233 x11_2]) x10_1 (wrap64 (x11_2 + 1))) else (none))) = some r := by rw [← hbq31] at H; exact H
                                      have Nbq31 := Aside0.mk hbq31
                                      clear hbq31
                                      by_cases c32 : (bq31 = true)
                                      · subst c32
                                        have H1 : (spec_RegionConnected.l1 k2 a1 t233 x8_2 x9_2 x10_1 (wrap64 (x11_2 + 1))) = some r := by rw [if_pos rfl] at H; exact H
                                        clear H
                                        have H := H1
                                        clear H1
                                        have H' := Aside0.mk H
                                        clear H
                                        have p245 : 0 ≤ (x11_2 : Int) := of_decide_eq_true (by first | (with_reducible assumption) | assumption)
                                        have q245 : x11_2 < (t233.length : Int) := of_decide_eq_true (by first | (with_reducible assumption) | assumption)
                                        obtain ⟨ad245, e245, hx245_0⟩ := Kd.at_int (Kd.R_reads' HO_7.out).2.2 x11_2 p245 q245
                                        obtain rfl : ad239 = ad245 := (by injection e245)
                                        replace p245 := eq_true p245
                                        replace q245 := eq_true q245
                                        obtain ⟨Ao33, co33, eo33⟩ := Kd.R_slice HO_9.out
                                        subst eo33
                                        have p246 : 0 ≤ (x10_1 : Int) := of_decide_eq_true (by first | (with_reducible assumption) | assumption)
                                        have q246 : x10_1 < (x9_2.length : Int) := of_decide_eq_true (by first | (with_reducible assumption) | assumption)
                                        obtain ⟨ad246, e246, hx246_0⟩ := Kd.at_int (Kd.R_reads' HO_9.out).2.2 x10_1 p246 q246
                                        cases e246
                                        replace p246 := eq_true p246
                                        replace q246 := eq_true q246
                                        have p247 : 0 ≤ (x11_2 : Int) := of_decide_eq_true (by first | (with_reducible assumption) | assumption)
                                        have q247 : x11_2 < (t233.length : Int) := of_decide_eq_true (by first | (with_reducible assumption) | assumption)
                                        obtain ⟨ad247, e247, hx247_0⟩ := Kd.at_int (Kd.R_reads' HO_7.out).2.2 x11_2 p247 q247
                                        obtain rfl : ad239 = ad247 := (by injection e247)
                                        replace p247 := eq_true p247
                                        replace q247 := eq_true q247
                                        have p248 : 0 ≤ ((rd t233 x11_2) : Int) := of_decide_eq_true (by first | (with_reducible assumption) | assumption)
                                        have q248 : (rd t233 x11_2) < (x8_2.length : Int) := of_decide_eq_true (by first | (with_reducible assumption) | assumption)
                                        obtain ⟨ad248, e248, hx248_0⟩ := Kd.at_bool (Kd.R_reads' HO_8.out).2.2 (rd t233 x11_2) p248 q248
                                        (try rw [← Nbq31.out] at hx248_0)
                                        obtain rfl : (⟨go13, 0, none⟩ : Addr) = ad248 := (by injection e248)
                                        (first | simp only [add_plain] at hx248_0 | simp only [add_at] at hx248_0 | simp only [Addr.add, Nat.zero_add] at hx248_0 | skip)
                                        replace p248 := eq_true p248
                                        replace q248 := eq_true q248
                                        go_wp2
                                        repeat (go_quiet (fail); try go_wp2)
                                        (try simp only [← hl8_2])
                                        go_roundg k2
                                        case measure => have := HK1.out; have := HK2.out; omega
                                        case rel => exact ⟨(x8_2), (x9_2), (wrap64 (x11_2 + 1)), (by first | rfl | (simp; done) | (simp [*]; done)), H', ⟨by have := HK1.out; have := HK2.out; omega⟩, ⟨by (try simp only [hl8_1]); (try simp only [hl8_2]); (with_reducible repeat (first | apply Kd.R_alloc | apply Kd.R_drewN | apply Kd.R_drew)); exact HO_7.out⟩, ⟨by (try simp only [hl8_1]); (try simp only [hl8_2]); (with_reducible repeat (first | apply Kd.R_alloc | apply Kd.R_drewN | apply Kd.R_drew)); exact HO_8.out⟩, ⟨by (try simp only [hl8_1]); (try simp only [hl8_2]); (with_reducible repeat (first | apply Kd.R_alloc | apply Kd.R_drewN | apply Kd.R_drew)); exact HO_9.out⟩, ⟨by repeat (first | (with_reducible first | exact HB.out | apply below_alloc | apply pw_below_drewN | apply below_drew1) | exact HB.out)⟩⟩
                                      · replace c32 := Bool.eq_false_iff.mpr c32
                                        subst c32
                                        have H1 : (if x9_2.length < 17592186044416 then (spec_RegionConnected.l1 k2 a1 t233 (x8_2.set ((rd t233 x11_2) : Int).toNat true) (x9_2 ++ [rd t233 x11_2]) x10_1 (wrap64 (x11_2 + 1))) else (none)) = some r := by rw [if_neg (show ¬ (false = true) by decide)] at H; exact H
                                        clear H
                                        have H := H1
                                        clear H1
                                        obtain ⟨y250, hy250⟩ : ∃ y_ : List Bool, y_ = (x8_2.set ((rd t233 x11_2) : Int).toNat true) := ⟨_, rfl⟩
                                        replace H : (if x9_2.length < 17592186044416 then (spec_RegionConnected.l1 k2 a1 t233 y250 (x9_2 ++ [rd t233 x11_2]) x10_1 (wrap64 (x11_2 + 1))) else (none)) = some r := by first | (rw [hy250]; with_reducible exact H) | (have H2_ := (Option.bind_some _ _).symm.trans H; rw [hy250]; with_reducible exact H2_) | (have H2_ := (Option.bind_some _ _).symm.trans H; with_reducible exact H2_) | with_reducible exact H | (rw [hy250]; exact H) | exact H
                                        have Ny250 := Aside0.mk hy250
                                        clear hy250
                                        by_cases c35 : x9_2.length < 17592186044416
                                        · rw [if_pos c35] at H
                                          have LMc35 := Aside0.mk c35
                                          clear c35
                                          obtain ⟨y252, hy252⟩ : ∃ y_ : List Int, y_ = (x9_2 ++ [rd t233 x11_2]) := ⟨_, rfl⟩
                                          replace H : (spec_RegionConnected.l1 k2 a1 t233 y250 y252 x10_1 (wrap64 (x11_2 + 1))) = some r := by first | (rw [hy252]; with_reducible exact H) | (have H2_ := (Option.bind_some _ _).symm.trans H; rw [hy252]; with_reducible exact H2_) | (have H2_ := (Option.bind_some _ _).symm.trans H; with_reducible exact H2_) | with_reducible exact H | (rw [hy252]; exact H) | exact H
                                          have Ny252 := Aside0.mk hy252
                                          clear hy252
                                          have H' := Aside0.mk H
                                          clear H
                                          have p245 : 0 ≤ (x11_2 : Int) := of_decide_eq_true (by first | (with_reducible assumption) | assumption)
                                          have q245 : x11_2 < (t233.length : Int) := of_decide_eq_true (by first | (with_reducible assumption) | assumption)
                                          obtain ⟨ad245, e245, hx245_0⟩ := Kd.at_int (Kd.R_reads' HO_7.out).2.2 x11_2 p245 q245
                                          obtain rfl : ad239 = ad245 := (by injection e245)
                                          replace p245 := eq_true p245
                                          replace q245 := eq_true q245
                                          obtain ⟨Ao36, co36, eo36⟩ := Kd.R_slice HO_9.out
                                          subst eo36
                                          have p246 : 0 ≤ (x10_1 : Int) := of_decide_eq_true (by first | (with_reducible assumption) | assumption)
                                          have q246 : x10_1 < (x9_2.length : Int) := of_decide_eq_true (by first | (with_reducible assumption) | assumption)
                                          obtain ⟨ad246, e246, hx246_0⟩ := Kd.at_int (Kd.R_reads' HO_9.out).2.2 x10_1 p246 q246
                                          cases e246
                                          replace p246 := eq_true p246
                                          replace q246 := eq_true q246
                                          have p247 : 0 ≤ (x11_2 : Int) := of_decide_eq_true (by first | (with_reducible assumption) | assumption)
                                          have q247 : x11_2 < (t233.length : Int) := of_decide_eq_true (by first | (with_reducible assumption) | assumption)
                                          obtain ⟨ad247, e247, hx247_0⟩ := Kd.at_int (Kd.R_reads' HO_7.out).2.2 x11_2 p247 q247
                                          obtain rfl : ad239 = ad247 := (by injection e247)
                                          replace p247 := eq_true p247
                                          replace q247 := eq_true q247
                                          have p248 : 0 ≤ ((rd t233 x11_2) : Int) := of_decide_eq_true (by first | (with_reducible assumption) | assumption)
                                          have q248 : (rd t233 x11_2) < (x8_2.length : Int) := of_decide_eq_true (by first | (with_reducible assumption) | assumption)
                                          obtain ⟨ad248, e248, hx248_0⟩ := Kd.at_bool (Kd.R_reads' HO_8.out).2.2 (rd t233 x11_2) p248 q248
                                          (try rw [← Nbq31.out] at hx248_0)
                                          obtain rfl : (⟨go13, 0, none⟩ : Addr) = ad248 := (by injection e248)
                                          (first | simp only [add_plain] at hx248_0 | simp only [add_at] at hx248_0 | simp only [Addr.add, Nat.zero_add] at hx248_0 | skip)
                                          replace p248 := eq_true p248
                                          replace q248 := eq_true q248
                                          have p249 : 0 ≤ (x11_2 : Int) := of_decide_eq_true (by first | (with_reducible assumption) | assumption)
                                          have q249 : x11_2 < (t233.length : Int) := of_decide_eq_true (by first | (with_reducible assumption) | assumption)
                                          obtain ⟨ad249, e249, hx249_0⟩ := Kd.at_int (Kd.R_reads' HO_7.out).2.2 x11_2 p249 q249
                                          obtain rfl : ad239 = ad249 := (by injection e249)
                                          replace p249 := eq_true p249
                                          replace q249 := eq_true q249
                                          have p34 : 0 ≤ ((rd t233 x11_2) : Int) := of_decide_eq_true (by first | (with_reducible assumption) | assumption)
                                          have q34 : ((rd t233 x11_2) : Int) < ((x8_2.length : Int) : Int) := of_decide_eq_true (by first | (with_reducible assumption) | assumption)
                                          obtain ⟨hx34_0, hf34_0⟩ := Kd.R_celln false HO_8.out ((rd t233 x11_2) : Int) p34 q34
                                          replace p34 := eq_true p34
                                          replace q34 := eq_true q34
                                          have HP37 := Kd.R_putg HO_8.out ((rd t233 x11_2) : Int) true
                                          go_wp2_with (first | ((with_reducible refine gate_store (t := 4) (p := 102) rfl ?_); (try (rw [drewN_self wr]; generalize hq_ : World.drewN wr _ = wr; have n0_ := Aside0.mk (Kd.R_at hq_ HO_7.out); have n1_ := Aside0.mk (Kd.R_at hq_ HO_8.out); have n2_ := Aside0.mk (Kd.R_at hq_ HO_9.out); have n3_ := Aside0.mk (below_at hq_ HB.out); clear hq_ HO_7 HO_8 HO_9 HB; have HO_7 := n0_; have HO_8 := n1_; have HO_9 := n2_; have HB := n3_; clear n0_ n1_ n2_ n3_; (try (have HP37 := Kd.R_putg HO_8.out ((rd t233 x11_2) : Int) true)); (try (obtain ⟨hx34_0, hf34_0⟩ := Kd.R_celln false HO_8.out ((rd t233 x11_2) : Int) (of_eq_true p34) (of_eq_true q34))))); refine store_event (t := 4) (p := 102) (v := ?vo_w38) (w1 := (wr.setCell ⟨go13, ((rd t233 x11_2) : Int).toNat, none⟩ (.bool true))) ?hg ?ho ?hn ?hr ?_; (case ho => rfl); (case hg => rfl); (case hn => rfl); (case hr => first | (go_simp; done) | (go_simp; rfl)); intro w38 hw; have hg : wr.grownBy w38 (some go13) := (by rw [hw]; exact HP37.2); have hp_ : Kd.R Kd.bool 4 w38 w.heap.size (fun _ => True) (.slice (some ⟨go13, 0, none⟩) x8_2.length co13) y250 := (by rw [hw, Ny250.out]; exact HP37.1); clear HP37; have n0_ := Aside0.mk (Kd.R_over' (v := (.slice (some ⟨go13, 0, none⟩) x8_2.length co13)) (by (with_reducible repeat (first | apply Kd.R_alloc | apply Kd.R_drewN | apply Kd.R_drew)); exact HO_7.out) (Kd.R_typed HO_8.out) (by decide) hg); have n1_ := Aside0.mk (hp_); have n2_ := Aside0.mk (Kd.R_over' (v := (.slice (some ⟨go13, 0, none⟩) x8_2.length co13)) (by (with_reducible repeat (first | apply Kd.R_alloc | apply Kd.R_drewN | apply Kd.R_drew)); exact HO_9.out) (Kd.R_typed HO_8.out) (by decide) hg); have n3_ := Aside0.mk ((by rw [hw]; exact below_set (HB.out) GB13.out : Below w.heap.size w w38)); clear HO_7; clear HO_8; clear HO_9; clear HB; have HO_7 := n0_; have HO_8 := n1_; have HO_9 := n2_; have HB := n3_; clear n0_ n1_ n2_ n3_; clear hg hw hp_; have p251 : 0 ≤ (x11_2 : Int) := of_decide_eq_true (by first | (with_reducible assumption) | assumption); have q251 : x11_2 < (t233.length : Int) := of_decide_eq_true (by first | (with_reducible assumption) | assumption); obtain ⟨ad251, e251, hx251_0⟩ := Kd.at_int (Kd.R_reads' HO_7.out).2.2 x11_2 p251 q251; obtain rfl : ad239 = ad251 := (by injection e251); replace p251 := eq_true p251; replace q251 := eq_true q251) | ((with_reducible refine gate_builtin (b := .append) (xs := #[.tmp 103, .tmp 108]) rfl ?_); at_builtin; refine Kd.R_append (Kd.int .i64) (w0 := w) w.heap.size rfl (.tmp 103) (.tmp 108) 32 3 (.int .i64 0) 8 rfl Try.underlying32 info3 rfl (by decide) (by omega) (.slice (some ad246) x9_2.length co36) x9_2 (rd t233 x11_2) [.int .i64 (rd t233 x11_2)] (fun k_ => some k_ ≠ (.slice (some ad239) t233.length co15 : Value).ownBlock) (fun _ => False) rfl rfl ?aP (fun _ hk => hk.elim) ?aF ?aO ?aB ?aS ?aL ?_; (case aP => exact rfl); (case aB => exact (by repeat (first | (with_reducible first | exact HB.out | apply below_alloc | apply pw_below_drewN | apply below_drew1) | exact HB.out))); (case aF => exact (fun k_ hk => Kd.fresh' (Kd.R_lt (by (with_reducible repeat (first | apply Kd.R_alloc | apply Kd.R_drewN | apply Kd.R_drew)); exact HO_7.out)) k_ hk)); (case aO => exact (by (with_reducible repeat (first | apply Kd.R_alloc | apply Kd.R_drewN | apply Kd.R_drew)); exact HO_9.out)); (case aS => exact (below_size (by repeat (first | (with_reducible first | exact HB.out | apply below_alloc | apply pw_below_drewN | apply below_drew1) | exact HB.out)))); (case aL => have := LMc35.out; omega); intro v253 w39 ho hb hg hat; rw [← Ny252.out] at ho; have n0_ := Aside0.mk (Kd.R_after (ok := (fun _ => True)) (by (with_reducible repeat (first | apply Kd.R_alloc | apply Kd.R_drewN | apply Kd.R_drew)); exact Kd.R_mono HO_7.out (fun _ hk => ⟨trivial, hk⟩)) hg hat); have n1_ := Aside0.mk (Kd.R_over' (by (with_reducible repeat (first | apply Kd.R_alloc | apply Kd.R_drewN | apply Kd.R_drew)); exact HO_8.out) (Kd.R_typed (by (with_reducible repeat (first | apply Kd.R_alloc | apply Kd.R_drewN | apply Kd.R_drew)); exact HO_9.out)) (by decide) hg); have n2_ := Aside0.mk (hb); have n3_ := Aside0.mk (ho); clear HO_7; clear HO_8; clear HB; clear HO_9; have HO_7 := n0_; have HO_8 := n1_; have HB := n2_; have HO254 := n3_; clear n0_ n1_ n2_ n3_; clear ho hb hg hat))
                                          repeat (go_quiet (first | ((with_reducible refine gate_store (t := 4) (p := 102) rfl ?_); (try (rw [drewN_self wr]; generalize hq_ : World.drewN wr _ = wr; have n0_ := Aside0.mk (Kd.R_at hq_ HO_7.out); have n1_ := Aside0.mk (Kd.R_at hq_ HO_8.out); have n2_ := Aside0.mk (Kd.R_at hq_ HO_9.out); have n3_ := Aside0.mk (below_at hq_ HB.out); clear hq_ HO_7 HO_8 HO_9 HB; have HO_7 := n0_; have HO_8 := n1_; have HO_9 := n2_; have HB := n3_; clear n0_ n1_ n2_ n3_; (try (have HP37 := Kd.R_putg HO_8.out ((rd t233 x11_2) : Int) true)); (try (obtain ⟨hx34_0, hf34_0⟩ := Kd.R_celln false HO_8.out ((rd t233 x11_2) : Int) (of_eq_true p34) (of_eq_true q34))))); refine store_event (t := 4) (p := 102) (v := ?vo_w38) (w1 := (wr.setCell ⟨go13, ((rd t233 x11_2) : Int).toNat, none⟩ (.bool true))) ?hg ?ho ?hn ?hr ?_; (case ho => rfl); (case hg => rfl); (case hn => rfl); (case hr => first | (go_simp; done) | (go_simp; rfl)); intro w38 hw; have hg : wr.grownBy w38 (some go13) := (by rw [hw]; exact HP37.2); have hp_ : Kd.R Kd.bool 4 w38 w.heap.size (fun _ => True) (.slice (some ⟨go13, 0, none⟩) x8_2.length co13) y250 := (by rw [hw, Ny250.out]; exact HP37.1); clear HP37; have n0_ := Aside0.mk (Kd.R_over' (v := (.slice (some ⟨go13, 0, none⟩) x8_2.length co13)) (by (with_reducible repeat (first | apply Kd.R_alloc | apply Kd.R_drewN | apply Kd.R_drew)); exact HO_7.out) (Kd.R_typed HO_8.out) (by decide) hg); have n1_ := Aside0.mk (hp_); have n2_ := Aside0.mk (Kd.R_over' (v := (.slice (some ⟨go13, 0, none⟩) x8_2.length co13)) (by (with_reducible repeat (first | apply Kd.R_alloc | apply Kd.R_drewN | apply Kd.R_drew)); exact HO_9.out) (Kd.R_typed HO_8.out) (by decide) hg); have n3_ := Aside0.mk ((by rw [hw]; exact below_set (HB.out) GB13.out : Below w.heap.size w w38)); clear HO_7; clear HO_8; clear HO_9; clear HB; have HO_7 := n0_; have HO_8 := n1_; have HO_9 := n2_; have HB := n3_; clear n0_ n1_ n2_ n3_; clear hg hw hp_; have p251 : 0 ≤ (x11_2 : Int) := of_decide_eq_true (by first | (with_reducible assumption) | assumption); have q251 : x11_2 < (t233.length : Int) := of_decide_eq_true (by first | (with_reducible assumption) | assumption); obtain ⟨ad251, e251, hx251_0⟩ := Kd.at_int (Kd.R_reads' HO_7.out).2.2 x11_2 p251 q251; obtain rfl : ad239 = ad251 := (by injection e251); replace p251 := eq_true p251; replace q251 := eq_true q251) | ((with_reducible refine gate_builtin (b := .append) (xs := #[.tmp 103, .tmp 108]) rfl ?_); at_builtin; refine Kd.R_append (Kd.int .i64) (w0 := w) w.heap.size rfl (.tmp 103) (.tmp 108) 32 3 (.int .i64 0) 8 rfl Try.underlying32 info3 rfl (by decide) (by omega) (.slice (some ad246) x9_2.length co36) x9_2 (rd t233 x11_2) [.int .i64 (rd t233 x11_2)] (fun k_ => some k_ ≠ (.slice (some ad239) t233.length co15 : Value).ownBlock) (fun _ => False) rfl rfl ?aP (fun _ hk => hk.elim) ?aF ?aO ?aB ?aS ?aL ?_; (case aP => exact rfl); (case aB => exact (by repeat (first | (with_reducible first | exact HB.out | apply below_alloc | apply pw_below_drewN | apply below_drew1) | exact HB.out))); (case aF => exact (fun k_ hk => Kd.fresh' (Kd.R_lt (by (with_reducible repeat (first | apply Kd.R_alloc | apply Kd.R_drewN | apply Kd.R_drew)); exact HO_7.out)) k_ hk)); (case aO => exact (by (with_reducible repeat (first | apply Kd.R_alloc | apply Kd.R_drewN | apply Kd.R_drew)); exact HO_9.out)); (case aS => exact (below_size (by repeat (first | (with_reducible first | exact HB.out | apply below_alloc | apply pw_below_drewN | apply below_drew1) | exact HB.out)))); (case aL => have := LMc35.out; omega); intro v253 w39 ho hb hg hat; rw [← Ny252.out] at ho; have n0_ := Aside0.mk (Kd.R_after (ok := (fun _ => True)) (by (with_reducible repeat (first | apply Kd.R_alloc | apply Kd.R_drewN | apply Kd.R_drew)); exact Kd.R_mono HO_7.out (fun _ hk => ⟨trivial, hk⟩)) hg hat); have n1_ := Aside0.mk (Kd.R_over' (by (with_reducible repeat (first | apply Kd.R_alloc | apply Kd.R_drewN | apply Kd.R_drew)); exact HO_8.out) (Kd.R_typed (by (with_reducible repeat (first | apply Kd.R_alloc | apply Kd.R_drewN | apply Kd.R_drew)); exact HO_9.out)) (by decide) hg); have n2_ := Aside0.mk (hb); have n3_ := Aside0.mk (ho); clear HO_7; clear HO_8; clear HB; clear HO_9; have HO_7 := n0_; have HO_8 := n1_; have HB := n2_; have HO254 := n3_; clear n0_ n1_ n2_ n3_; clear ho hb hg hat)); try go_wp2_with (first | ((with_reducible refine gate_store (t := 4) (p := 102) rfl ?_); (try (rw [drewN_self wr]; generalize hq_ : World.drewN wr _ = wr; have n0_ := Aside0.mk (Kd.R_at hq_ HO_7.out); have n1_ := Aside0.mk (Kd.R_at hq_ HO_8.out); have n2_ := Aside0.mk (Kd.R_at hq_ HO_9.out); have n3_ := Aside0.mk (below_at hq_ HB.out); clear hq_ HO_7 HO_8 HO_9 HB; have HO_7 := n0_; have HO_8 := n1_; have HO_9 := n2_; have HB := n3_; clear n0_ n1_ n2_ n3_; (try (have HP37 := Kd.R_putg HO_8.out ((rd t233 x11_2) : Int) true)); (try (obtain ⟨hx34_0, hf34_0⟩ := Kd.R_celln false HO_8.out ((rd t233 x11_2) : Int) (of_eq_true p34) (of_eq_true q34))))); refine store_event (t := 4) (p := 102) (v := ?vo_w38) (w1 := (wr.setCell ⟨go13, ((rd t233 x11_2) : Int).toNat, none⟩ (.bool true))) ?hg ?ho ?hn ?hr ?_; (case ho => rfl); (case hg => rfl); (case hn => rfl); (case hr => first | (go_simp; done) | (go_simp; rfl)); intro w38 hw; have hg : wr.grownBy w38 (some go13) := (by rw [hw]; exact HP37.2); have hp_ : Kd.R Kd.bool 4 w38 w.heap.size (fun _ => True) (.slice (some ⟨go13, 0, none⟩) x8_2.length co13) y250 := (by rw [hw, Ny250.out]; exact HP37.1); clear HP37; have n0_ := Aside0.mk (Kd.R_over' (v := (.slice (some ⟨go13, 0, none⟩) x8_2.length co13)) (by (with_reducible repeat (first | apply Kd.R_alloc | apply Kd.R_drewN | apply Kd.R_drew)); exact HO_7.out) (Kd.R_typed HO_8.out) (by decide) hg); have n1_ := Aside0.mk (hp_); have n2_ := Aside0.mk (Kd.R_over' (v := (.slice (some ⟨go13, 0, none⟩) x8_2.length co13)) (by (with_reducible repeat (first | apply Kd.R_alloc | apply Kd.R_drewN | apply Kd.R_drew)); exact HO_9.out) (Kd.R_typed HO_8.out) (by decide) hg); have n3_ := Aside0.mk ((by rw [hw]; exact below_set (HB.out) GB13.out : Below w.heap.size w w38)); clear HO_7; clear HO_8; clear HO_9; clear HB; have HO_7 := n0_; have HO_8 := n1_; have HO_9 := n2_; have HB := n3_; clear n0_ n1_ n2_ n3_; clear hg hw hp_; have p251 : 0 ≤ (x11_2 : Int) := of_decide_eq_true (by first | (with_reducible assumption) | assumption); have q251 : x11_2 < (t233.length : Int) := of_decide_eq_true (by first | (with_reducible assumption) | assumption); obtain ⟨ad251, e251, hx251_0⟩ := Kd.at_int (Kd.R_reads' HO_7.out).2.2 x11_2 p251 q251; obtain rfl : ad239 = ad251 := (by injection e251); replace p251 := eq_true p251; replace q251 := eq_true q251) | ((with_reducible refine gate_builtin (b := .append) (xs := #[.tmp 103, .tmp 108]) rfl ?_); at_builtin; refine Kd.R_append (Kd.int .i64) (w0 := w) w.heap.size rfl (.tmp 103) (.tmp 108) 32 3 (.int .i64 0) 8 rfl Try.underlying32 info3 rfl (by decide) (by omega) (.slice (some ad246) x9_2.length co36) x9_2 (rd t233 x11_2) [.int .i64 (rd t233 x11_2)] (fun k_ => some k_ ≠ (.slice (some ad239) t233.length co15 : Value).ownBlock) (fun _ => False) rfl rfl ?aP (fun _ hk => hk.elim) ?aF ?aO ?aB ?aS ?aL ?_; (case aP => exact rfl); (case aB => exact (by repeat (first | (with_reducible first | exact HB.out | apply below_alloc | apply pw_below_drewN | apply below_drew1) | exact HB.out))); (case aF => exact (fun k_ hk => Kd.fresh' (Kd.R_lt (by (with_reducible repeat (first | apply Kd.R_alloc | apply Kd.R_drewN | apply Kd.R_drew)); exact HO_7.out)) k_ hk)); (case aO => exact (by (with_reducible repeat (first | apply Kd.R_alloc | apply Kd.R_drewN | apply Kd.R_drew)); exact HO_9.out)); (case aS => exact (below_size (by repeat (first | (with_reducible first | exact HB.out | apply below_alloc | apply pw_below_drewN | apply below_drew1) | exact HB.out)))); (case aL => have := LMc35.out; omega); intro v253 w39 ho hb hg hat; rw [← Ny252.out] at ho; have n0_ := Aside0.mk (Kd.R_after (ok := (fun _ => True)) (by (with_reducible repeat (first | apply Kd.R_alloc | apply Kd.R_drewN | apply Kd.R_drew)); exact Kd.R_mono HO_7.out (fun _ hk => ⟨trivial, hk⟩)) hg hat); have n1_ := Aside0.mk (Kd.R_over' (by (with_reducible repeat (first | apply Kd.R_alloc | apply Kd.R_drewN | apply Kd.R_drew)); exact HO_8.out) (Kd.R_typed (by (with_reducible repeat (first | apply Kd.R_alloc | apply Kd.R_drewN | apply Kd.R_drew)); exact HO_9.out)) (by decide) hg); have n2_ := Aside0.mk (hb); have n3_ := Aside0.mk (ho); clear HO_7; clear HO_8; clear HB; clear HO_9; have HO_7 := n0_; have HO_8 := n1_; have HB := n2_; have HO254 := n3_; clear n0_ n1_ n2_ n3_; clear ho hb hg hat)))
                                          (try simp only [← hl8_2])
                                          go_roundg k2
                                          case measure => have := HK1.out; have := HK2.out; omega
                                          case rel => exact ⟨(y250), (y252), (wrap64 (x11_2 + 1)), (by first | rfl | (simp; done) | (simp [*]; done)), H', ⟨by have := HK1.out; have := HK2.out; omega⟩, ⟨by (try simp only [hl8_1]); (try simp only [hl8_2]); (with_reducible repeat (first | apply Kd.R_alloc | apply Kd.R_drewN | apply Kd.R_drew)); exact Kd.R_mono HO_7.out (fun _ hk => hk.2)⟩, ⟨by (try simp only [hl8_1]); (try simp only [hl8_2]); (with_reducible repeat (first | apply Kd.R_alloc | apply Kd.R_drewN | apply Kd.R_drew)); exact HO_8.out⟩, ⟨by (try simp only [hl8_1]); (try simp only [hl8_2]); (with_reducible repeat (first | apply Kd.R_alloc | apply Kd.R_drewN | apply Kd.R_drew)); exact HO254.out⟩, ⟨by repeat (first | (with_reducible first | exact HB.out | apply below_alloc | apply pw_below_drewN | apply below_drew1) | exact HB.out)⟩⟩
                                        · rw [if_neg c35] at H
                                          exact absurd H (by simp)
                                    · rw [if_neg c30] at H
                                      exact absurd H (by simp)
                                  · rw [if_neg c29] at H
                                    exact absurd H (by simp)
                                · rw [if_neg c28] at H
                                  have c28b0 : ((wrap64 ((rd t233 x11_2) - (rd x9_2 x10_1))) == a1) = false := beq_eq_false_iff_ne.mpr c28
                                  have c28b1 : ((wrap64 ((rd t233 x11_2) - (rd x9_2 x10_1))) != a1) = true := bne_iff_ne.mpr c28
                                  by_cases c40 : (wrap64 ((rd t233 x11_2) - (rd x9_2 x10_1))) = (wrap64 (-a1))
                                  · rw [if_pos c40] at H
                                    have c40b0 : ((wrap64 ((rd t233 x11_2) - (rd x9_2 x10_1))) == (wrap64 (-a1))) = true := beq_iff_eq.mpr c40
                                    have c40b1 : ((wrap64 ((rd t233 x11_2) - (rd x9_2 x10_1))) != (wrap64 (-a1))) = false := bne_eq_false_iff_eq.mpr c40
                                    clear c40
                                    by_cases c41 : 0 ≤ (rd t233 x11_2)
                                    · rw [if_pos c41] at H
                                      have c41b0 : decide (0 ≤ (rd t233 x11_2)) = true := decide_eq_true c41
                                      clear c41
                                      by_cases c42 : (rd t233 x11_2) < (x8_2.length : Int)
                                      · rw [if_pos c42] at H
                                        have c42b0 : decide ((rd t233 x11_2) < (x8_2.length : Int)) = true := decide_eq_true c42
                                        clear c42
                                        obtain ⟨bq43, hbq43⟩ : ∃ b_ : Bool, b_ = (rdOf false x8_2 (rd t233 x11_2)) := ⟨_, rfl⟩
                                        replace H : (if (bq43 = true) then (spec_RegionConnected.l1 k2 a1 t233 x8_2 x9_2 x10_1 (wrap64 (x11_2 + 1))) else (if x9_2.length < 17592186044416 then (spec_RegionConnected.l1 k2 a1 t233 (x8_2.set ((rd t233 x11_2) : Int).toNat true) (x9_2 ++ [rd t233 x11_2]) x10_1 (wrap64 (x11_2 + 1))) else (none))) = some r := by rw [← hbq43] at H; exact H
                                        have Nbq43 := Aside0.mk hbq43
                                        clear hbq43
                                        by_cases c44 : (bq43 = true)
                                        · subst c44
                                          have H1 : (spec_RegionConnected.l1 k2 a1 t233 x8_2 x9_2 x10_1 (wrap64 (x11_2 + 1))) = some r := by rw [if_pos rfl] at H; exact H
                                          clear H
                                          have H := H1
                                          clear H1
                                          have H' := Aside0.mk H
                                          clear H
                                          have p245 : 0 ≤ (x11_2 : Int) := of_decide_eq_true (by first | (with_reducible assumption) | assumption)
                                          have q245 : x11_2 < (t233.length : Int) := of_decide_eq_true (by first | (with_reducible assumption) | assumption)
                                          obtain ⟨ad245, e245, hx245_0⟩ := Kd.at_int (Kd.R_reads' HO_7.out).2.2 x11_2 p245 q245
                                          obtain rfl : ad239 = ad245 := (by injection e245)
                                          replace p245 := eq_true p245
                                          replace q245 := eq_true q245
                                          obtain ⟨Ao45, co45, eo45⟩ := Kd.R_slice HO_9.out
                                          subst eo45
                                          have p246 : 0 ≤ (x10_1 : Int) := of_decide_eq_true (by first | (with_reducible assumption) | assumption)
                                          have q246 : x10_1 < (x9_2.length : Int) := of_decide_eq_true (by first | (with_reducible assumption) | assumption)
                                          obtain ⟨ad246, e246, hx246_0⟩ := Kd.at_int (Kd.R_reads' HO_9.out).2.2 x10_1 p246 q246
                                          cases e246
                                          replace p246 := eq_true p246
                                          replace q246 := eq_true q246
                                          have p255 : 0 ≤ (x11_2 : Int) := of_decide_eq_true (by first | (with_reducible assumption) | assumption)
                                          have q255 : x11_2 < (t233.length : Int) := of_decide_eq_true (by first | (with_reducible assumption) | assumption)
                                          obtain ⟨ad255, e255, hx255_0⟩ := Kd.at_int (Kd.R_reads' HO_7.out).2.2 x11_2 p255 q255
                                          obtain rfl : ad239 = ad255 := (by injection e255)
                                          replace p255 := eq_true p255
                                          replace q255 := eq_true q255
                                          have p256 : 0 ≤ ((rd t233 x11_2) : Int) := of_decide_eq_true (by first | (with_reducible assumption) | assumption)
                                          have q256 : (rd t233 x11_2) < (x8_2.length : Int) := of_decide_eq_true (by first | (with_reducible assumption) | assumption)
                                          obtain ⟨ad256, e256, hx256_0⟩ := Kd.at_bool (Kd.R_reads' HO_8.out).2.2 (rd t233 x11_2) p256 q256
                                          (try rw [← Nbq43.out] at hx256_0)
                                          obtain rfl : (⟨go13, 0, none⟩ : Addr) = ad256 := (by injection e256)
                                          (first | simp only [add_plain] at hx256_0 | simp only [add_at] at hx256_0 | simp only [Addr.add, Nat.zero_add] at hx256_0 | skip)
                                          replace p256 := eq_true p256
                                          replace q256 := eq_true q256
                                          go_wp2
                                          repeat (go_quiet (fail); try go_wp2)
                                          (try simp only [← hl8_2])
                                          go_roundg k2
                                          case measure => have := HK1.out; have := HK2.out; omega
                                          case rel => exact ⟨(x8_2), (x9_2), (wrap64 (x11_2 + 1)), (by first | rfl | (simp; done) | (simp [*]; done)), H', ⟨by have := HK1.out; have := HK2.out; omega⟩, ⟨by (try simp only [hl8_1]); (try simp only [hl8_2]); (with_reducible repeat (first | apply Kd.R_alloc | apply Kd.R_drewN | apply Kd.R_drew)); exact HO_7.out⟩, ⟨by (try simp only [hl8_1]); (try simp only [hl8_2]); (with_reducible repeat (first | apply Kd.R_alloc | apply Kd.R_drewN | apply Kd.R_drew)); exact HO_8.out⟩, ⟨by (try simp only [hl8_1]); (try simp only [hl8_2]); (with_reducible repeat (first | apply Kd.R_alloc | apply Kd.R_drewN | apply Kd.R_drew)); exact HO_9.out⟩, ⟨by repeat (first | (with_reducible first | exact HB.out | apply below_alloc | apply pw_below_drewN | apply below_drew1) | exact HB.out)⟩⟩
                                        · replace c44 := Bool.eq_false_iff.mpr c44
                                          subst c44
                                          have H1 : (if x9_2.length < 17592186044416 then (spec_RegionConnected.l1 k2 a1 t233 (x8_2.set ((rd t233 x11_2) : Int).toNat true) (x9_2 ++ [rd t233 x11_2]) x10_1 (wrap64 (x11_2 + 1))) else (none)) = some r := by rw [if_neg (show ¬ (false = true) by decide)] at H; exact H
                                          clear H
                                          have H := H1
                                          clear H1
                                          obtain ⟨y258, hy258⟩ : ∃ y_ : List Bool, y_ = (x8_2.set ((rd t233 x11_2) : Int).toNat true) := ⟨_, rfl⟩
                                          replace H : (if x9_2.length < 17592186044416 then (spec_RegionConnected.l1 k2 a1 t233 y258 (x9_2 ++ [rd t233 x11_2]) x10_1 (wrap64 (x11_2 + 1))) else (none)) = some r := by first | (rw [hy258]; with_reducible exact H) | (have H2_ := (Option.bind_some _ _).symm.trans H; rw [hy258]; with_reducible exact H2_) | (have H2_ := (Option.bind_some _ _).symm.trans H; with_reducible exact H2_) | with_reducible exact H | (rw [hy258]; exact H) | exact H
                                          have Ny258 := Aside0.mk hy258
                                          clear hy258
                                          by_cases c47 : x9_2.length < 17592186044416
                                          · rw [if_pos c47] at H
                                            have LMc47 := Aside0.mk c47
                                            clear c47
                                            obtain ⟨y260, hy260⟩ : ∃ y_ : List Int, y_ = (x9_2 ++ [rd t233 x11_2]) := ⟨_, rfl⟩
                                            replace H : (spec_RegionConnected.l1 k2 a1 t233 y258 y260 x10_1 (wrap64 (x11_2 + 1))) = some r := by first | (rw [hy260]; with_reducible exact H) | (have H2_ := (Option.bind_some _ _).symm.trans H; rw [hy260]; with_reducible exact H2_) | (have H2_ := (Option.bind_some _ _).symm.trans H; with_reducible exact H2_) | with_reducible exact H | (rw [hy260]; exact H) | exact H
                                            have Ny260 := Aside0.mk hy260
                                            clear hy260
                                            have H' := Aside0.mk H
                                            clear H
                                            have p245 : 0 ≤ (x11_2 : Int) := of_decide_eq_true (by first | (with_reducible assumption) | assumption)
                                            have q245 : x11_2 < (t233.length : Int) := of_decide_eq_true (by first | (with_reducible assumption) | assumption)
                                            obtain ⟨ad245, e245, hx245_0⟩ := Kd.at_int (Kd.R_reads' HO_7.out).2.2 x11_2 p245 q245
                                            obtain rfl : ad239 = ad245 := (by injection e245)
                                            replace p245 := eq_true p245
                                            replace q245 := eq_true q245
                                            obtain ⟨Ao48, co48, eo48⟩ := Kd.R_slice HO_9.out
                                            subst eo48
                                            have p246 : 0 ≤ (x10_1 : Int) := of_decide_eq_true (by first | (with_reducible assumption) | assumption)
                                            have q246 : x10_1 < (x9_2.length : Int) := of_decide_eq_true (by first | (with_reducible assumption) | assumption)
                                            obtain ⟨ad246, e246, hx246_0⟩ := Kd.at_int (Kd.R_reads' HO_9.out).2.2 x10_1 p246 q246
                                            cases e246
                                            replace p246 := eq_true p246
                                            replace q246 := eq_true q246
                                            have p255 : 0 ≤ (x11_2 : Int) := of_decide_eq_true (by first | (with_reducible assumption) | assumption)
                                            have q255 : x11_2 < (t233.length : Int) := of_decide_eq_true (by first | (with_reducible assumption) | assumption)
                                            obtain ⟨ad255, e255, hx255_0⟩ := Kd.at_int (Kd.R_reads' HO_7.out).2.2 x11_2 p255 q255
                                            obtain rfl : ad239 = ad255 := (by injection e255)
                                            replace p255 := eq_true p255
                                            replace q255 := eq_true q255
                                            have p256 : 0 ≤ ((rd t233 x11_2) : Int) := of_decide_eq_true (by first | (with_reducible assumption) | assumption)
                                            have q256 : (rd t233 x11_2) < (x8_2.length : Int) := of_decide_eq_true (by first | (with_reducible assumption) | assumption)
                                            obtain ⟨ad256, e256, hx256_0⟩ := Kd.at_bool (Kd.R_reads' HO_8.out).2.2 (rd t233 x11_2) p256 q256
                                            (try rw [← Nbq43.out] at hx256_0)
                                            obtain rfl : (⟨go13, 0, none⟩ : Addr) = ad256 := (by injection e256)
                                            (first | simp only [add_plain] at hx256_0 | simp only [add_at] at hx256_0 | simp only [Addr.add, Nat.zero_add] at hx256_0 | skip)
                                            replace p256 := eq_true p256
                                            replace q256 := eq_true q256
                                            have p257 : 0 ≤ (x11_2 : Int) := of_decide_eq_true (by first | (with_reducible assumption) | assumption)
                                            have q257 : x11_2 < (t233.length : Int) := of_decide_eq_true (by first | (with_reducible assumption) | assumption)
                                            obtain ⟨ad257, e257, hx257_0⟩ := Kd.at_int (Kd.R_reads' HO_7.out).2.2 x11_2 p257 q257
                                            obtain rfl : ad239 = ad257 := (by injection e257)
                                            replace p257 := eq_true p257
                                            replace q257 := eq_true q257
                                            have p46 : 0 ≤ ((rd t233 x11_2) : Int) := of_decide_eq_true (by first | (with_reducible assumption) | assumption)
                                            have q46 : ((rd t233 x11_2) : Int) < ((x8_2.length : Int) : Int) := of_decide_eq_true (by first | (with_reducible assumption) | assumption)
                                            obtain ⟨hx46_0, hf46_0⟩ := Kd.R_celln false HO_8.out ((rd t233 x11_2) : Int) p46 q46
                                            replace p46 := eq_true p46
                                            replace q46 := eq_true q46
                                            have HP49 := Kd.R_putg HO_8.out ((rd t233 x11_2) : Int) true
                                            go_wp2_with (first | ((with_reducible refine gate_store (t := 4) (p := 102) rfl ?_); (try (rw [drewN_self wr]; generalize hq_ : World.drewN wr _ = wr; have n0_ := Aside0.mk (Kd.R_at hq_ HO_7.out); have n1_ := Aside0.mk (Kd.R_at hq_ HO_8.out); have n2_ := Aside0.mk (Kd.R_at hq_ HO_9.out); have n3_ := Aside0.mk (below_at hq_ HB.out); clear hq_ HO_7 HO_8 HO_9 HB; have HO_7 := n0_; have HO_8 := n1_; have HO_9 := n2_; have HB := n3_; clear n0_ n1_ n2_ n3_; (try (have HP49 := Kd.R_putg HO_8.out ((rd t233 x11_2) : Int) true)); (try (obtain ⟨hx46_0, hf46_0⟩ := Kd.R_celln false HO_8.out ((rd t233 x11_2) : Int) (of_eq_true p46) (of_eq_true q46))))); refine store_event (t := 4) (p := 102) (v := ?vo_w50) (w1 := (wr.setCell ⟨go13, ((rd t233 x11_2) : Int).toNat, none⟩ (.bool true))) ?hg ?ho ?hn ?hr ?_; (case ho => rfl); (case hg => rfl); (case hn => rfl); (case hr => first | (go_simp; done) | (go_simp; rfl)); intro w50 hw; have hg : wr.grownBy w50 (some go13) := (by rw [hw]; exact HP49.2); have hp_ : Kd.R Kd.bool 4 w50 w.heap.size (fun _ => True) (.slice (some ⟨go13, 0, none⟩) x8_2.length co13) y258 := (by rw [hw, Ny258.out]; exact HP49.1); clear HP49; have n0_ := Aside0.mk (Kd.R_over' (v := (.slice (some ⟨go13, 0, none⟩) x8_2.length co13)) (by (with_reducible repeat (first | apply Kd.R_alloc | apply Kd.R_drewN | apply Kd.R_drew)); exact HO_7.out) (Kd.R_typed HO_8.out) (by decide) hg); have n1_ := Aside0.mk (hp_); have n2_ := Aside0.mk (Kd.R_over' (v := (.slice (some ⟨go13, 0, none⟩) x8_2.length co13)) (by (with_reducible repeat (first | apply Kd.R_alloc | apply Kd.R_drewN | apply Kd.R_drew)); exact HO_9.out) (Kd.R_typed HO_8.out) (by decide) hg); have n3_ := Aside0.mk ((by rw [hw]; exact below_set (HB.out) GB13.out : Below w.heap.size w w50)); clear HO_7; clear HO_8; clear HO_9; clear HB; have HO_7 := n0_; have HO_8 := n1_; have HO_9 := n2_; have HB := n3_; clear n0_ n1_ n2_ n3_; clear hg hw hp_; have p259 : 0 ≤ (x11_2 : Int) := of_decide_eq_true (by first | (with_reducible assumption) | assumption); have q259 : x11_2 < (t233.length : Int) := of_decide_eq_true (by first | (with_reducible assumption) | assumption); obtain ⟨ad259, e259, hx259_0⟩ := Kd.at_int (Kd.R_reads' HO_7.out).2.2 x11_2 p259 q259; obtain rfl : ad239 = ad259 := (by injection e259); replace p259 := eq_true p259; replace q259 := eq_true q259) | ((with_reducible refine gate_builtin (b := .append) (xs := #[.tmp 103, .tmp 108]) rfl ?_); at_builtin; refine Kd.R_append (Kd.int .i64) (w0 := w) w.heap.size rfl (.tmp 103) (.tmp 108) 32 3 (.int .i64 0) 8 rfl Try.underlying32 info3 rfl (by decide) (by omega) (.slice (some ad246) x9_2.length co48) x9_2 (rd t233 x11_2) [.int .i64 (rd t233 x11_2)] (fun k_ => some k_ ≠ (.slice (some ad239) t233.length co15 : Value).ownBlock) (fun _ => False) rfl rfl ?aP (fun _ hk => hk.elim) ?aF ?aO ?aB ?aS ?aL ?_; (case aP => exact rfl); (case aB => exact (by repeat (first | (with_reducible first | exact HB.out | apply below_alloc | apply pw_below_drewN | apply below_drew1) | exact HB.out))); (case aF => exact (fun k_ hk => Kd.fresh' (Kd.R_lt (by (with_reducible repeat (first | apply Kd.R_alloc | apply Kd.R_drewN | apply Kd.R_drew)); exact HO_7.out)) k_ hk)); (case aO => exact (by (with_reducible repeat (first | apply Kd.R_alloc | apply Kd.R_drewN | apply Kd.R_drew)); exact HO_9.out)); (case aS => exact (below_size (by repeat (first | (with_reducible first | exact HB.out | apply below_alloc | apply pw_below_drewN | apply below_drew1) | exact HB.out)))); (case aL => have := LMc47.out; omega); intro v261 w51 ho hb hg hat; rw [← Ny260.out] at ho; have n0_ := Aside0.mk (Kd.R_after (ok := (fun _ => True)) (by (with_reducible repeat (first | apply Kd.R_alloc | apply Kd.R_drewN | apply Kd.R_drew)); exact Kd.R_mono HO_7.out (fun _ hk => ⟨trivial, hk⟩)) hg hat); have n1_ := Aside0.mk (Kd.R_over' (by (with_reducible repeat (first | apply Kd.R_alloc | apply Kd.R_drewN | apply Kd.R_drew)); exact HO_8.out) (Kd.R_typed (by (with_reducible repeat (first | apply Kd.R_alloc | apply Kd.R_drewN | apply Kd.R_drew)); exact HO_9.out)) (by decide) hg); have n2_ := Aside0.mk (hb); have n3_ := Aside0.mk (ho); clear HO_7; clear HO_8; clear HB; clear HO_9; have HO_7 := n0_; have HO_8 := n1_; have HB := n2_; have HO262 := n3_; clear n0_ n1_ n2_ n3_; clear ho hb hg hat))
                                            repeat (go_quiet (first | ((with_reducible refine gate_store (t := 4) (p := 102) rfl ?_); (try (rw [drewN_self wr]; generalize hq_ : World.drewN wr _ = wr; have n0_ := Aside0.mk (Kd.R_at hq_ HO_7.out); have n1_ := Aside0.mk (Kd.R_at hq_ HO_8.out); have n2_ := Aside0.mk (Kd.R_at hq_ HO_9.out); have n3_ := Aside0.mk (below_at hq_ HB.out); clear hq_ HO_7 HO_8 HO_9 HB; have HO_7 := n0_; have HO_8 := n1_; have HO_9 := n2_; have HB := n3_; clear n0_ n1_ n2_ n3_; (try (have HP49 := Kd.R_putg HO_8.out ((rd t233 x11_2) : Int) true)); (try (obtain ⟨hx46_0, hf46_0⟩ := Kd.R_celln false HO_8.out ((rd t233 x11_2) : Int) (of_eq_true p46) (of_eq_true q46))))); refine store_event (t := 4) (p := 102) (v := ?vo_w50) (w1 := (wr.setCell ⟨go13, ((rd t233 x11_2) : Int).toNat, none⟩ (.bool true))) ?hg ?ho ?hn ?hr ?_; (case ho => rfl); (case hg => rfl); (case hn => rfl); (case hr => first | (go_simp; done) | (go_simp; rfl)); intro w50 hw; have hg : wr.grownBy w50 (some go13) := (by rw [hw]; exact HP49.2); have hp_ : Kd.R Kd.bool 4 w50 w.heap.size (fun _ => True) (.slice (some ⟨go13, 0, none⟩) x8_2.length co13) y258 := (by rw [hw, Ny258.out]; exact HP49.1); clear HP49; have n0_ := Aside0.mk (Kd.R_over' (v := (.slice (some ⟨go13, 0, none⟩) x8_2.length co13)) (by (with_reducible repeat (first | apply Kd.R_alloc | apply Kd.R_drewN | apply Kd.R_drew)); exact HO_7.out) (Kd.R_typed HO_8.out) (by decide) hg); have n1_ := Aside0.mk (hp_); have n2_ := Aside0.mk (Kd.R_over' (v := (.slice (some ⟨go13, 0, none⟩) x8_2.length co13)) (by (with_reducible repeat (first | apply Kd.R_alloc | apply Kd.R_drewN | apply Kd.R_drew)); exact HO_9.out) (Kd.R_typed HO_8.out) (by decide) hg); have n3_ := Aside0.mk ((by rw [hw]; exact below_set (HB.out) GB13.out : Below w.heap.size w w50)); clear HO_7; clear HO_8; clear HO_9; clear HB; have HO_7 := n0_; have HO_8 := n1_; have HO_9 := n2_; have HB := n3_; clear n0_ n1_ n2_ n3_; clear hg hw hp_; have p259 : 0 ≤ (x11_2 : Int) := of_decide_eq_true (by first | (with_reducible assumption) | assumption); have q259 : x11_2 < (t233.length : Int) := of_decide_eq_true (by first | (with_reducible assumption) | assumption); obtain ⟨ad259, e259, hx259_0⟩ := Kd.at_int (Kd.R_reads' HO_7.out).2.2 x11_2 p259 q259; obtain rfl : ad239 = ad259 := (by injection e259); replace p259 := eq_true p259; replace q259 := eq_true q259) | ((with_reducible refine gate_builtin (b := .append) (xs := #[.tmp 103, .tmp 108]) rfl ?_); at_builtin; refine Kd.R_append (Kd.int .i64) (w0 := w) w.heap.size rfl (.tmp 103) (.tmp 108) 32 3 (.int .i64 0) 8 rfl Try.underlying32 info3 rfl (by decide) (by omega) (.slice (some ad246) x9_2.length co48) x9_2 (rd t233 x11_2) [.int .i64 (rd t233 x11_2)] (fun k_ => some k_ ≠ (.slice (some ad239) t233.length co15 : Value).ownBlock) (fun _ => False) rfl rfl ?aP (fun _ hk => hk.elim) ?aF ?aO ?aB ?aS ?aL ?_; (case aP => exact rfl); (case aB => exact (by repeat (first | (with_reducible first | exact HB.out | apply below_alloc | apply pw_below_drewN | apply below_drew1) | exact HB.out))); (case aF => exact (fun k_ hk => Kd.fresh' (Kd.R_lt (by (with_reducible repeat (first | apply Kd.R_alloc | apply Kd.R_drewN | apply Kd.R_drew)); exact HO_7.out)) k_ hk)); (case aO => exact (by (with_reducible repeat (first | apply Kd.R_alloc | apply Kd.R_drewN | apply Kd.R_drew)); exact HO_9.out)); (case aS => exact (below_size (by repeat (first | (with_reducible first | exact HB.out | apply below_alloc | apply pw_below_drewN | apply below_drew1) | exact HB.out)))); (case aL => have := LMc47.out; omega); intro v261 w51 ho hb hg hat; rw [← Ny260.out] at ho; have n0_ := Aside0.mk (Kd.R_after (ok := (fun _ => True)) (by (with_reducible repeat (first | apply Kd.R_alloc | apply Kd.R_drewN | apply Kd.R_drew)); exact Kd.R_mono HO_7.out (fun _ hk => ⟨trivial, hk⟩)) hg hat); have n1_ := Aside0.mk (Kd.R_over' (by (with_reducible repeat (first | apply Kd.R_alloc | apply Kd.R_drewN | apply Kd.R_drew)); exact HO_8.out) (Kd.R_typed (by (with_reducible repeat (first | apply Kd.R_alloc | apply Kd.R_drewN | apply Kd.R_drew)); exact HO_9.out)) (by decide) hg); have n2_ := Aside0.mk (hb); have n3_ := Aside0.mk (ho); clear HO_7; clear HO_8; clear HB; clear HO_9; have HO_7 := n0_; have HO_8 := n1_; have HB := n2_; have HO262 := n3_; clear n0_ n1_ n2_ n3_; clear ho hb hg hat)); try go_wp2_with (first | ((with_reducible refine gate_store (t := 4) (p := 102) rfl ?_); (try (rw [drewN_self wr]; generalize hq_ : World.drewN wr _ = wr; have n0_ := Aside0.mk (Kd.R_at hq_ HO_7.out); have n1_ := Aside0.mk (Kd.R_at hq_ HO_8.out); have n2_ := Aside0.mk (Kd.R_at hq_ HO_9.out); have n3_ := Aside0.mk (below_at hq_ HB.out); clear hq_ HO_7 HO_8 HO_9 HB; have HO_7 := n0_; have HO_8 := n1_; have HO_9 := n2_; have HB := n3_; clear n0_ n1_ n2_ n3_; (try (have HP49 := Kd.R_putg HO_8.out ((rd t233 x11_2) : Int) true)); (try (obtain ⟨hx46_0, hf46_0⟩ := Kd.R_celln false HO_8.out ((rd t233 x11_2) : Int) (of_eq_true p46) (of_eq_true q46))))); refine store_event (t := 4) (p := 102) (v := ?vo_w50) (w1 := (wr.setCell ⟨go13, ((rd t233 x11_2) : Int).toNat, none⟩ (.bool true))) ?hg ?ho ?hn ?hr ?_; (case ho => rfl); (case hg => rfl); (case hn => rfl); (case hr => first | (go_simp; done) | (go_simp; rfl)); intro w50 hw; have hg : wr.grownBy w50 (some go13) := (by rw [hw]; exact HP49.2); have hp_ : Kd.R Kd.bool 4 w50 w.heap.size (fun _ => True) (.slice (some ⟨go13, 0, none⟩) x8_2.length co13) y258 := (by rw [hw, Ny258.out]; exact HP49.1); clear HP49; have n0_ := Aside0.mk (Kd.R_over' (v := (.slice (some ⟨go13, 0, none⟩) x8_2.length co13)) (by (with_reducible repeat (first | apply Kd.R_alloc | apply Kd.R_drewN | apply Kd.R_drew)); exact HO_7.out) (Kd.R_typed HO_8.out) (by decide) hg); have n1_ := Aside0.mk (hp_); have n2_ := Aside0.mk (Kd.R_over' (v := (.slice (some ⟨go13, 0, none⟩) x8_2.length co13)) (by (with_reducible repeat (first | apply Kd.R_alloc | apply Kd.R_drewN | apply Kd.R_drew)); exact HO_9.out) (Kd.R_typed HO_8.out) (by decide) hg); have n3_ := Aside0.mk ((by rw [hw]; exact below_set (HB.out) GB13.out : Below w.heap.size w w50)); clear HO_7; clear HO_8; clear HO_9; clear HB; have HO_7 := n0_; have HO_8 := n1_; have HO_9 := n2_; have HB := n3_; clear n0_ n1_ n2_ n3_; clear hg hw hp_; have p259 : 0 ≤ (x11_2 : Int) := of_decide_eq_true (by first | (with_reducible assumption) | assumption); have q259 : x11_2 < (t233.length : Int) := of_decide_eq_true (by first | (with_reducible assumption) | assumption); obtain ⟨ad259, e259, hx259_0⟩ := Kd.at_int (Kd.R_reads' HO_7.out).2.2 x11_2 p259 q259; obtain rfl : ad239 = ad259 := (by injection e259); replace p259 := eq_true p259; replace q259 := eq_true q259) | ((with_reducible refine gate_builtin (b := .append) (xs := #[.tmp 103, .tmp 108]) rfl ?_); at_builtin; refine Kd.R_append (Kd.int .i64) (w0 := w) w.heap.size rfl (.tmp 103) (.tmp 108) 32 3 (.int .i64 0) 8 rfl Try.underlying32 info3 rfl (by decide) (by omega) (.slice (some ad246) x9_2.length co48) x9_2 (rd t233 x11_2) [.int .i64 (rd t233 x11_2)] (fun k_ => some k_ ≠ (.slice (some ad239) t233.length co15 : Value).ownBlock) (fun _ => False) rfl rfl ?aP (fun _ hk => hk.elim) ?aF ?aO ?aB ?aS ?aL ?_; (case aP => exact rfl); (case aB => exact (by repeat (first | (with_reducible first | exact HB.out | apply below_alloc | apply pw_below_drewN | apply below_drew1) | exact HB.out))); (case aF => exact (fun k_ hk => Kd.fresh' (Kd.R_lt (by (with_reducible repeat (first | apply Kd.R_alloc | apply Kd.R_drewN | apply Kd.R_drew)); exact HO_7.out)) k_ hk)); (case aO => exact (by (with_reducible repeat (first | apply Kd.R_alloc | apply Kd.R_drewN | apply Kd.R_drew)); exact HO_9.out)); (case aS => exact (below_size (by repeat (first | (with_reducible first | exact HB.out | apply below_alloc | apply pw_below_drewN | apply below_drew1) | exact HB.out)))); (case aL => have := LMc47.out; omega); intro v261 w51 ho hb hg hat; rw [← Ny260.out] at ho; have n0_ := Aside0.mk (Kd.R_after (ok := (fun _ => True)) (by (with_reducible repeat (first | apply Kd.R_alloc | apply Kd.R_drewN | apply Kd.R_drew)); exact Kd.R_mono HO_7.out (fun _ hk => ⟨trivial, hk⟩)) hg hat); have n1_ := Aside0.mk (Kd.R_over' (by (with_reducible repeat (first | apply Kd.R_alloc | apply Kd.R_drewN | apply Kd.R_drew)); exact HO_8.out) (Kd.R_typed (by (with_reducible repeat (first | apply Kd.R_alloc | apply Kd.R_drewN | apply Kd.R_drew)); exact HO_9.out)) (by decide) hg); have n2_ := Aside0.mk (hb); have n3_ := Aside0.mk (ho); clear HO_7; clear HO_8; clear HB; clear HO_9; have HO_7 := n0_; have HO_8 := n1_; have HB := n2_; have HO262 := n3_; clear n0_ n1_ n2_ n3_; clear ho hb hg hat)))
                                            (try simp only [← hl8_2])
                                            go_roundg k2
                                            case measure => have := HK1.out; have := HK2.out; omega
                                            case rel => exact ⟨(y258), (y260), (wrap64 (x11_2 + 1)), (by first | rfl | (simp; done) | (simp [*]; done)), H', ⟨by have := HK1.out; have := HK2.out; omega⟩, ⟨by (try simp only [hl8_1]); (try simp only [hl8_2]); (with_reducible repeat (first | apply Kd.R_alloc | apply Kd.R_drewN | apply Kd.R_drew)); exact Kd.R_mono HO_7.out (fun _ hk => hk.2)⟩, ⟨by (try simp only [hl8_1]); (try simp only [hl8_2]); (with_reducible repeat (first | apply Kd.R_alloc | apply Kd.R_drewN | apply Kd.R_drew)); exact HO_8.out⟩, ⟨by (try simp only [hl8_1]); (try simp only [hl8_2]); (with_reducible repeat (first | apply Kd.R_alloc | apply Kd.R_drewN | apply Kd.R_drew)); exact HO262.out⟩, ⟨by repeat (first | (with_reducible first | exact HB.out | apply below_alloc | apply pw_below_drewN | apply below_drew1) | exact HB.out)⟩⟩
                                          · rw [if_neg c47] at H
                                            exact absurd H (by simp)
                                      · rw [if_neg c42] at H
                                        exact absurd H (by simp)
                                    · rw [if_neg c41] at H
                                      exact absurd H (by simp)
                                  · rw [if_neg c40] at H
                                    have c40b0 : ((wrap64 ((rd t233 x11_2) - (rd x9_2 x10_1))) == (wrap64 (-a1))) = false := beq_eq_false_iff_ne.mpr c40
                                    have c40b1 : ((wrap64 ((rd t233 x11_2) - (rd x9_2 x10_1))) != (wrap64 (-a1))) = true := bne_iff_ne.mpr c40
                                    by_cases c52 : (wrap64 ((rd t233 x11_2) - (rd x9_2 x10_1))) = 1
                                    · rw [if_pos c52] at H
                                      have c52b0 : ((wrap64 ((rd t233 x11_2) - (rd x9_2 x10_1))) == 1) = true := beq_iff_eq.mpr c52
                                      have c52b1 : ((wrap64 ((rd t233 x11_2) - (rd x9_2 x10_1))) != 1) = false := bne_eq_false_iff_eq.mpr c52
                                      clear c52
                                      by_cases c53 : a1 = 0
                                      · rw [if_pos c53] at H
                                        exact absurd H (by simp)
                                      · rw [if_neg c53] at H
                                        have c53b0 : (a1 == 0) = false := beq_eq_false_iff_ne.mpr c53
                                        have c53b1 : (a1 != 0) = true := bne_iff_ne.mpr c53
                                        by_cases c54 : (wrap64 (Int.tdiv (rd t233 x11_2) a1)) = (wrap64 (Int.tdiv (rd x9_2 x10_1) a1))
                                        · rw [if_pos c54] at H
                                          have c54b0 : ((wrap64 (Int.tdiv (rd t233 x11_2) a1)) == (wrap64 (Int.tdiv (rd x9_2 x10_1) a1))) = true := beq_iff_eq.mpr c54
                                          have c54b1 : ((wrap64 (Int.tdiv (rd t233 x11_2) a1)) != (wrap64 (Int.tdiv (rd x9_2 x10_1) a1))) = false := bne_eq_false_iff_eq.mpr c54
                                          clear c54
                                          by_cases c55 : 0 ≤ (rd t233 x11_2)
                                          · rw [if_pos c55] at H
                                            have c55b0 : decide (0 ≤ (rd t233 x11_2)) = true := decide_eq_true c55
                                            clear c55
                                            by_cases c56 : (rd t233 x11_2) < (x8_2.length : Int)
                                            · rw [if_pos c56] at H
                                              have c56b0 : decide ((rd t233 x11_2) < (x8_2.length : Int)) = true := decide_eq_true c56
                                              clear c56
                                              obtain ⟨bq57, hbq57⟩ : ∃ b_ : Bool, b_ = (rdOf false x8_2 (rd t233 x11_2)) := ⟨_, rfl⟩
                                              replace H : (if (bq57 = true) then (spec_RegionConnected.l1 k2 a1 t233 x8_2 x9_2 x10_1 (wrap64 (x11_2 + 1))) else (if x9_2.length < 17592186044416 then (spec_RegionConnected.l1 k2 a1 t233 (x8_2.set ((rd t233 x11_2) : Int).toNat true) (x9_2 ++ [rd t233 x11_2]) x10_1 (wrap64 (x11_2 + 1))) else (none))) = some r := by rw [← hbq57] at H; exact H
                                              have Nbq57 := Aside0.mk hbq57
                                              clear hbq57
                                              by_cases c58 : (bq57 = true)
                                              · subst c58
                                                have H1 : (spec_RegionConnected.l1 k2 a1 t233 x8_2 x9_2 x10_1 (wrap64 (x11_2 + 1))) = some r := by rw [if_pos rfl] at H; exact H
                                                clear H
                                                have H := H1
                                                clear H1
                                                have H' := Aside0.mk H
                                                clear H
                                                have p245 : 0 ≤ (x11_2 : Int) := of_decide_eq_true (by first | (with_reducible assumption) | assumption)
                                                have q245 : x11_2 < (t233.length : Int) := of_decide_eq_true (by first | (with_reducible assumption) | assumption)
                                                obtain ⟨ad245, e245, hx245_0⟩ := Kd.at_int (Kd.R_reads' HO_7.out).2.2 x11_2 p245 q245
                                                obtain rfl : ad239 = ad245 := (by injection e245)
                                                replace p245 := eq_true p245
                                                replace q245 := eq_true q245
                                                obtain ⟨Ao59, co59, eo59⟩ := Kd.R_slice HO_9.out
                                                subst eo59
                                                have p246 : 0 ≤ (x10_1 : Int) := of_decide_eq_true (by first | (with_reducible assumption) | assumption)
                                                have q246 : x10_1 < (x9_2.length : Int) := of_decide_eq_true (by first | (with_reducible assumption) | assumption)
                                                obtain ⟨ad246, e246, hx246_0⟩ := Kd.at_int (Kd.R_reads' HO_9.out).2.2 x10_1 p246 q246
                                                cases e246
                                                replace p246 := eq_true p246
                                                replace q246 := eq_true q246
                                                have p263 : 0 ≤ (x11_2 : Int) := of_decide_eq_true (by first | (with_reducible assumption) | assumption)
                                                have q263 : x11_2 < (t233.length : Int) := of_decide_eq_true (by first | (with_reducible assumption) | assumption)
                                                obtain ⟨ad263, e263, hx263_0⟩ := Kd.at_int (Kd.R_reads' HO_7.out).2.2 x11_2 p263 q263
                                                obtain rfl : ad239 = ad263 := (by injection e263)
                                                replace p263 := eq_true p263
                                                replace q263 := eq_true q263
                                                have p264 : 0 ≤ (x10_1 : Int) := of_decide_eq_true (by first | (with_reducible assumption) | assumption)
                                                have q264 : x10_1 < (x9_2.length : Int) := of_decide_eq_true (by first | (with_reducible assumption) | assumption)
                                                obtain ⟨ad264, e264, hx264_0⟩ := Kd.at_int (Kd.R_reads' HO_9.out).2.2 x10_1 p264 q264
                                                obtain rfl : ad246 = ad264 := (by injection e264)
                                                replace p264 := eq_true p264
                                                replace q264 := eq_true q264
                                                have p265 : 0 ≤ (x11_2 : Int) := of_decide_eq_true (by first | (with_reducible assumption) | assumption)
                                                have q265 : x11_2 < (t233.length : Int) := of_decide_eq_true (by first | (with_reducible assumption) | assumption)
                                                obtain ⟨ad265, e265, hx265_0⟩ := Kd.at_int (Kd.R_reads' HO_7.out).2.2 x11_2 p265 q265
                                                obtain rfl : ad239 = ad265 := (by injection e265)
                                                replace p265 := eq_true p265
                                                replace q265 := eq_true q265
                                                have p266 : 0 ≤ ((rd t233 x11_2) : Int) := of_decide_eq_true (by first | (with_reducible assumption) | assumption)
                                                have q266 : (rd t233 x11_2) < (x8_2.length : Int) := of_decide_eq_true (by first | (with_reducible assumption) | assumption)
                                                obtain ⟨ad266, e266, hx266_0⟩ := Kd.at_bool (Kd.R_reads' HO_8.out).2.2 (rd t233 x11_2) p266 q266
                                                (try rw [← Nbq57.out] at hx266_0)
                                                obtain rfl : (⟨go13, 0, none⟩ : Addr) = ad266 := (by injection e266)
                                                (first | simp only [add_plain] at hx266_0 | simp only [add_at] at hx266_0 | simp only [Addr.add, Nat.zero_add] at hx266_0 | skip)
                                                replace p266 := eq_true p266
                                                replace q266 := eq_true q266
                                                go_wp2
                                                repeat (go_quiet (fail); try go_wp2)
                                                (try simp only [← hl8_2])
                                                go_roundg k2
                                                case measure => have := HK1.out; have := HK2.out; omega
                                                case rel => exact ⟨(x8_2), (x9_2), (wrap64 (x11_2 + 1)), (by first | rfl | (simp; done) | (simp [*]; done)), H', ⟨by have := HK1.out; have := HK2.out; omega⟩, ⟨by (try simp only [hl8_1]); (try simp only [hl8_2]); (with_reducible repeat (first | apply Kd.R_alloc | apply Kd.R_drewN | apply Kd.R_drew)); exact HO_7.out⟩, ⟨by (try simp only [hl8_1]); (try simp only [hl8_2]); (with_reducible repeat (first | apply Kd.R_alloc | apply Kd.R_drewN | apply Kd.R_drew)); exact HO_8.out⟩, ⟨by (try simp only [hl8_1]); (try simp only [hl8_2]); (with_reducible repeat (first | apply Kd.R_alloc | apply Kd.R_drewN | apply Kd.R_drew)); exact HO_9.out⟩, ⟨by repeat (first | (with_reducible first | exact HB.out | apply below_alloc | apply pw_below_drewN | apply below_drew1) | exact HB.out)⟩⟩
                                              · replace c58 := Bool.eq_false_iff.mpr c58
                                                subst c58
                                                have H1 : (if x9_2.length < 17592186044416 then (spec_RegionConnected.l1 k2 a1 t233 (x8_2.set ((rd t233 x11_2) : Int).toNat true) (x9_2 ++ [rd t233 x11_2]) x10_1 (wrap64 (x11_2 + 1))) else (none)) = some r := by rw [if_neg (show ¬ (false = true) by decide)] at H; exact H
                                                clear H
                                                have H := H1
                                                clear H1
                                                obtain ⟨y268, hy268⟩ : ∃ y_ : List Bool, y_ = (x8_2.set ((rd t233 x11_2) : Int).toNat true) := ⟨_, rfl⟩
                                                replace H : (if x9_2.length < 17592186044416 then (spec_RegionConnected.l1 k2 a1 t233 y268 (x9_2 ++ [rd t233 x11_2]) x10_1 (wrap64 (x11_2 + 1))) else (none)) = some r := by first | (rw [hy268]; with_reducible exact H) | (have H2_ := (Option.bind_some _ _).symm.trans H; rw [hy268]; with_reducible exact H2_) | (have H2_ := (Option.bind_some _ _).symm.trans H; with_reducible exact H2_) | with_reducible exact H | (rw [hy268]; exact H) | exact H
                                                have Ny268 := Aside0.mk hy268
                                                clear hy268
                                                by_cases c61 : x9_2.length < 17592186044416
                                                · rw [if_pos c61] at H
                                                  have LMc61 := Aside0.mk c61
                                                  clear c61
                                                  obtain ⟨y270, hy270⟩ : ∃ y_ : List Int, y_ = (x9_2 ++ [rd t233 x11_2]) := ⟨_, rfl⟩
                                                  replace H : (spec_RegionConnected.l1 k2 a1 t233 y268 y270 x10_1 (wrap64 (x11_2 + 1))) = some r := by first | (rw [hy270]; with_reducible exact H) | (have H2_ := (Option.bind_some _ _).symm.trans H; rw [hy270]; with_reducible exact H2_) | (have H2_ := (Option.bind_some _ _).symm.trans H; with_reducible exact H2_) | with_reducible exact H | (rw [hy270]; exact H) | exact H
                                                  have Ny270 := Aside0.mk hy270
                                                  clear hy270
                                                  have H' := Aside0.mk H
                                                  clear H
                                                  have p245 : 0 ≤ (x11_2 : Int) := of_decide_eq_true (by first | (with_reducible assumption) | assumption)
                                                  have q245 : x11_2 < (t233.length : Int) := of_decide_eq_true (by first | (with_reducible assumption) | assumption)
                                                  obtain ⟨ad245, e245, hx245_0⟩ := Kd.at_int (Kd.R_reads' HO_7.out).2.2 x11_2 p245 q245
                                                  obtain rfl : ad239 = ad245 := (by injection e245)
                                                  replace p245 := eq_true p245
                                                  replace q245 := eq_true q245
                                                  obtain ⟨Ao62, co62, eo62⟩ := Kd.R_slice HO_9.out
                                                  subst eo62
                                                  have p246 : 0 ≤ (x10_1 : Int) := of_decide_eq_true (by first | (with_reducible assumption) | assumption)
                                                  have q246 : x10_1 < (x9_2.length : Int) := of_decide_eq_true (by first | (with_reducible assumption) | assumption)
                                                  obtain ⟨ad246, e246, hx246_0⟩ := Kd.at_int (Kd.R_reads' HO_9.out).2.2 x10_1 p246 q246
                                                  cases e246
                                                  replace p246 := eq_true p246
                                                  replace q246 := eq_true q246
                                                  have p263 : 0 ≤ (x11_2 : Int) := of_decide_eq_true (by first | (with_reducible assumption) | assumption)
                                                  have q263 : x11_2 < (t233.length : Int) := of_decide_eq_true (by first | (with_reducible assumption) | assumption)
                                                  obtain ⟨ad263, e263, hx263_0⟩ := Kd.at_int (Kd.R_reads' HO_7.out).2.2 x11_2 p263 q263
                                                  obtain rfl : ad239 = ad263 := (by injection e263)
                                                  replace p263 := eq_true p263
                                                  replace q263 := eq_true q263
                                                  have p264 : 0 ≤ (x10_1 : Int) := of_decide_eq_true (by first | (with_reducible assumption) | assumption)
                                                  have q264 : x10_1 < (x9_2.length : Int) := of_decide_eq_true (by first | (with_reducible assumption) | assumption)
                                                  obtain ⟨ad264, e264, hx264_0⟩ := Kd.at_int (Kd.R_reads' HO_9.out).2.2 x10_1 p264 q264
                                                  obtain rfl : ad246 = ad264 := (by injection e264)
                                                  replace p264 := eq_true p264
                                                  replace q264 := eq_true q264
                                                  have p265 : 0 ≤ (x11_2 : Int) := of_decide_eq_true (by first | (with_reducible assumption) | assumption)
                                                  have q265 : x11_2 < (t233.length : Int) := of_decide_eq_true (by first | (with_reducible assumption) | assumption)
                                                  obtain ⟨ad265, e265, hx265_0⟩ := Kd.at_int (Kd.R_reads' HO_7.out).2.2 x11_2 p265 q265
                                                  obtain rfl : ad239 = ad265 := (by injection e265)
                                                  replace p265 := eq_true p265
                                                  replace q265 := eq_true q265
                                                  have p266 : 0 ≤ ((rd t233 x11_2) : Int) := of_decide_eq_true (by first | (with_reducible assumption) | assumption)
                                                  have q266 : (rd t233 x11_2) < (x8_2.length : Int) := of_decide_eq_true (by first | (with_reducible assumption) | assumption)
                                                  obtain ⟨ad266, e266, hx266_0⟩ := Kd.at_bool (Kd.R_reads' HO_8.out).2.2 (rd t233 x11_2) p266 q266
                                                  (try rw [← Nbq57.out] at hx266_0)
                                                  obtain rfl : (⟨go13, 0, none⟩ : Addr) = ad266 := (by injection e266)
                                                  (first | simp only [add_plain] at hx266_0 | simp only [add_at] at hx266_0 | simp only [Addr.add, Nat.zero_add] at hx266_0 | skip)
                                                  replace p266 := eq_true p266
                                                  replace q266 := eq_true q266
                                                  have p267 : 0 ≤ (x11_2 : Int) := of_decide_eq_true (by first | (with_reducible assumption) | assumption)
                                                  have q267 : x11_2 < (t233.length : Int) := of_decide_eq_true (by first | (with_reducible assumption) | assumption)
                                                  obtain ⟨ad267, e267, hx267_0⟩ := Kd.at_int (Kd.R_reads' HO_7.out).2.2 x11_2 p267 q267
                                                  obtain rfl : ad239 = ad267 := (by injection e267)
                                                  replace p267 := eq_true p267
                                                  replace q267 := eq_true q267
                                                  have p60 : 0 ≤ ((rd t233 x11_2) : Int) := of_decide_eq_true (by first | (with_reducible assumption) | assumption)
                                                  have q60 : ((rd t233 x11_2) : Int) < ((x8_2.length : Int) : Int) := of_decide_eq_true (by first | (with_reducible assumption) | assumption)
                                                  obtain ⟨hx60_0, hf60_0⟩ := Kd.R_celln false HO_8.out ((rd t233 x11_2) : Int) p60 q60
                                                  replace p60 := eq_true p60
                                                  replace q60 := eq_true q60
                                                  have HP63 := Kd.R_putg HO_8.out ((rd t233 x11_2) : Int) true
                                                  go_wp2_with (first | ((with_reducible refine gate_store (t := 4) (p := 102) rfl ?_); (try (rw [drewN_self wr]; generalize hq_ : World.drewN wr _ = wr; have n0_ := Aside0.mk (Kd.R_at hq_ HO_7.out); have n1_ := Aside0.mk (Kd.R_at hq_ HO_8.out); have n2_ := Aside0.mk (Kd.R_at hq_ HO_9.out); have n3_ := Aside0.mk (below_at hq_ HB.out); clear hq_ HO_7 HO_8 HO_9 HB; have HO_7 := n0_; have HO_8 := n1_; have HO_9 := n2_; have HB := n3_; clear n0_ n1_ n2_ n3_; (try (have HP63 := Kd.R_putg HO_8.out ((rd t233 x11_2) : Int) true)); (try (obtain ⟨hx60_0, hf60_0⟩ := Kd.R_celln false HO_8.out ((rd t233 x11_2) : Int) (of_eq_true p60) (of_eq_true q60))))); refine store_event (t := 4) (p := 102) (v := ?vo_w64) (w1 := (wr.setCell ⟨go13, ((rd t233 x11_2) : Int).toNat, none⟩ (.bool true))) ?hg ?ho ?hn ?hr ?_; (case ho => rfl); (case hg => rfl); (case hn => rfl); (case hr => first | (go_simp; done) | (go_simp; rfl)); intro w64 hw; have hg : wr.grownBy w64 (some go13) := (by rw [hw]; exact HP63.2); have hp_ : Kd.R Kd.bool 4 w64 w.heap.size (fun _ => True) (.slice (some ⟨go13, 0, none⟩) x8_2.length co13) y268 := (by rw [hw, Ny268.out]; exact HP63.1); clear HP63; have n0_ := Aside0.mk (Kd.R_over' (v := (.slice (some ⟨go13, 0, none⟩) x8_2.length co13)) (by (with_reducible repeat (first | apply Kd.R_alloc | apply Kd.R_drewN | apply Kd.R_drew)); exact HO_7.out) (Kd.R_typed HO_8.out) (by decide) hg); have n1_ := Aside0.mk (hp_); have n2_ := Aside0.mk (Kd.R_over' (v := (.slice (some ⟨go13, 0, none⟩) x8_2.length co13)) (by (with_reducible repeat (first | apply Kd.R_alloc | apply Kd.R_drewN | apply Kd.R_drew)); exact HO_9.out) (Kd.R_typed HO_8.out) (by decide) hg); have n3_ := Aside0.mk ((by rw [hw]; exact below_set (HB.out) GB13.out : Below w.heap.size w w64)); clear HO_7; clear HO_8; clear HO_9; clear HB; have HO_7 := n0_; have HO_8 := n1_; have HO_9 := n2_; have HB := n3_; clear n0_ n1_ n2_ n3_; clear hg hw hp_; have p269 : 0 ≤ (x11_2 : Int) := of_decide_eq_true (by first | (with_reducible assumption) | assumption); have q269 : x11_2 < (t233.length : Int) := of_decide_eq_true (by first | (with_reducible assumption) | assumption); obtain ⟨ad269, e269, hx269_0⟩ := Kd.at_int (Kd.R_reads' HO_7.out).2.2 x11_2 p269 q269; obtain rfl : ad239 = ad269 := (by injection e269); replace p269 := eq_true p269; replace q269 := eq_true q269) | ((with_reducible refine gate_builtin (b := .append) (xs := #[.tmp 103, .tmp 108]) rfl ?_); at_builtin; refine Kd.R_append (Kd.int .i64) (w0 := w) w.heap.size rfl (.tmp 103) (.tmp 108) 32 3 (.int .i64 0) 8 rfl Try.underlying32 info3 rfl (by decide) (by omega) (.slice (some ad246) x9_2.length co62) x9_2 (rd t233 x11_2) [.int .i64 (rd t233 x11_2)] (fun k_ => some k_ ≠ (.slice (some ad239) t233.length co15 : Value).ownBlock) (fun _ => False) rfl rfl ?aP (fun _ hk => hk.elim) ?aF ?aO ?aB ?aS ?aL ?_; (case aP => exact rfl); (case aB => exact (by repeat (first | (with_reducible first | exact HB.out | apply below_alloc | apply pw_below_drewN | apply below_drew1) | exact HB.out))); (case aF => exact (fun k_ hk => Kd.fresh' (Kd.R_lt (by (with_reducible repeat (first | apply Kd.R_alloc | apply Kd.R_drewN | apply Kd.R_drew)); exact HO_7.out)) k_ hk)); (case aO => exact (by (with_reducible repeat (first | apply Kd.R_alloc | apply Kd.R_drewN | apply Kd.R_drew)); exact HO_9.out)); (case aS => exact (below_size (by repeat (first | (with_reducible first | exact HB.out | apply below_alloc | apply pw_below_drewN | apply below_drew1) | exact HB.out)))); (case aL => have := LMc61.out; omega); intro v271 w65 ho hb hg hat; rw [← Ny270.out] at ho; have n0_ := Aside0.mk (Kd.R_after (ok := (fun _ => True)) (by (with_reducible repeat (first | apply Kd.R_alloc | apply Kd.R_drewN | apply Kd.R_drew)); exact Kd.R_mono HO_7.out (fun _ hk => ⟨trivial, hk⟩)) hg hat); have n1_ := Aside0.mk (Kd.R_over' (by (with_reducible repeat (first | apply Kd.R_alloc | apply Kd.R_drewN | apply Kd.R_drew)); exact HO_8.out) (Kd.R_typed (by (with_reducible repeat (first | apply Kd.R_alloc | apply Kd.R_drewN | apply Kd.R_drew)); exact HO_9.out)) (by decide) hg); have n2_ := Aside0.mk (hb); have n3_ := Aside0.mk (ho); clear HO_7; clear HO_8; clear HB; clear HO_9; have HO_7 := n0_; have HO_8 := n1_; have HB := n2_; have HO272 := n3_; clear n0_ n1_ n2_ n3_; clear ho hb hg hat))
                                                  repeat (go_quiet (first | ((with_reducible refine gate_store (t := 4) (p := 102) rfl ?_); (try (rw [drewN_self wr]; generalize hq_ : World.drewN wr _ = wr; have n0_ := Aside0.mk (Kd.R_at hq_ HO_7.out); have n1_ := Aside0.mk (Kd.R_at hq_ HO_8.out); have n2_ := Aside0.mk (Kd.R_at hq_ HO_9.out); have n3_ := Aside0.mk (below_at hq_ HB.out); clear hq_ HO_7 HO_8 HO_9 HB; have HO_7 := n0_; have HO_8 := n1_; have HO_9 := n2_; have HB := n3_; clear n0_ n1_ n2_ n3_; (try (have HP63 := Kd.R_putg HO_8.out ((rd t233 x11_2) : Int) true)); (try (obtain ⟨hx60_0, hf60_0⟩ := Kd.R_celln false HO_8.out ((rd t233 x11_2) : Int) (of_eq_true p60) (of_eq_true q60))))); refine store_event (t := 4) (p := 102) (v := ?vo_w64) (w1 := (wr.setCell ⟨go13, ((rd t233 x11_2) : Int).toNat, none⟩ (.bool true))) ?hg ?ho ?hn ?hr ?_; (case ho => rfl); (case hg => rfl); (case hn => rfl); (case hr => first | (go_simp; done) | (go_simp; rfl)); intro w64 hw; have hg : wr.grownBy w64 (some go13) := (by rw [hw]; exact HP63.2); have hp_ : Kd.R Kd.bool 4 w64 w.heap.size (fun _ => True) (.slice (some ⟨go13, 0, none⟩) x8_2.length co13) y268 := (by rw [hw, Ny268.out]; exact HP63.1); clear HP63; have n0_ := Aside0.mk (Kd.R_over' (v := (.slice (some ⟨go13, 0, none⟩) x8_2.length co13)) (by (with_reducible repeat (first | apply Kd.R_alloc | apply Kd.R_drewN | apply Kd.R_drew)); exact HO_7.out) (Kd.R_typed HO_8.out) (by decide) hg); have n1_ := Aside0.mk (hp_); have n2_ := Aside0.mk (Kd.R_over' (v := (.slice (some ⟨go13, 0, none⟩) x8_2.length co13)) (by (with_reducible repeat (first | apply Kd.R_alloc | apply Kd.R_drewN | apply Kd.R_drew)); exact HO_9.out) (Kd.R_typed HO_8.out) (by decide) hg); have n3_ := Aside0.mk ((by rw [hw]; exact below_set (HB.out) GB13.out : Below w.heap.size w w64)); clear HO_7; clear HO_8; clear HO_9; clear HB; have HO_7 := n0_; have HO_8 := n1_; have HO_9 := n2_; have HB := n3_; clear n0_ n1_ n2_ n3_; clear hg hw hp_; have p269 : 0 ≤ (x11_2 : Int) := of_decide_eq_true (by first | (with_reducible assumption) | assumption); have q269 : x11_2 < (t233.length : Int) := of_decide_eq_true (by first | (with_reducible assumption) | assumption); obtain ⟨ad269, e269, hx269_0⟩ := Kd.at_int (Kd.R_reads' HO_7.out).2.2 x11_2 p269 q269; obtain rfl : ad239 = ad269 := (by injection e269); replace p269 := eq_true p269; replace q269 := eq_true q269) | ((with_reducible refine gate_builtin (b := .append) (xs := #[.tmp 103, .tmp 108]) rfl ?_); at_builtin; refine Kd.R_append (Kd.int .i64) (w0 := w) w.heap.size rfl (.tmp 103) (.tmp 108) 32 3 (.int .i64 0) 8 rfl Try.underlying32 info3 rfl (by decide) (by omega) (.slice (some ad246) x9_2.length co62) x9_2 (rd t233 x11_2) [.int .i64 (rd t233 x11_2)] (fun k_ => some k_ ≠ (.slice (some ad239) t233.length co15 : Value).ownBlock) (fun _ => False) rfl rfl ?aP (fun _ hk => hk.elim) ?aF ?aO ?aB ?aS ?aL ?_; (case aP => exact rfl); (case aB => exact (by repeat (first | (with_reducible first | exact HB.out | apply below_alloc | apply pw_below_drewN | apply below_drew1) | exact HB.out))); (case aF => exact (fun k_ hk => Kd.fresh' (Kd.R_lt (by (with_reducible repeat (first | apply Kd.R_alloc | apply Kd.R_drewN | apply Kd.R_drew)); exact HO_7.out)) k_ hk)); (case aO => exact (by (with_reducible repeat (first | apply Kd.R_alloc | apply Kd.R_drewN | apply Kd.R_drew)); exact HO_9.out)); (case aS => exact (below_size (by repeat (first | (with_reducible first | exact HB.out | apply below_alloc | apply pw_below_drewN | apply below_drew1) | exact HB.out)))); (case aL => have := LMc61.out; omega); intro v271 w65 ho hb hg hat; rw [← Ny270.out] at ho; have n0_ := Aside0.mk (Kd.R_after (ok := (fun _ => True)) (by (with_reducible repeat (first | apply Kd.R_alloc | apply Kd.R_drewN | apply Kd.R_drew)); exact Kd.R_mono HO_7.out (fun _ hk => ⟨trivial, hk⟩)) hg hat); have n1_ := Aside0.mk (Kd.R_over' (by (with_reducible repeat (first | apply Kd.R_alloc | apply Kd.R_drewN | apply Kd.R_drew)); exact HO_8.out) (Kd.R_typed (by (with_reducible repeat (first | apply Kd.R_alloc | apply Kd.R_drewN | apply Kd.R_drew)); exact HO_9.out)) (by decide) hg); have n2_ := Aside0.mk (hb); have n3_ := Aside0.mk (ho); clear HO_7; clear HO_8; clear HB; clear HO_9; have HO_7 := n0_; have HO_8 := n1_; have HB := n2_; have HO272 := n3_; clear n0_ n1_ n2_ n3_; clear ho hb hg hat)); try go_wp2_with (first | ((with_reducible refine gate_store (t := 4) (p := 102) rfl ?_); (try (rw [drewN_self wr]; generalize hq_ : World.drewN wr _ = wr; have n0_ := Aside0.mk (Kd.R_at hq_ HO_7.out); have n1_ := Aside0.mk (Kd.R_at hq_ HO_8.out); have n2_ := Aside0.mk (Kd.R_at hq_ HO_9.out); have n3_ := Aside0.mk (below_at hq_ HB.out); clear hq_ HO_7 HO_8 HO_9 HB; have HO_7 := n0_; have HO_8 := n1_; have HO_9 := n2_; have HB := n3_; clear n0_ n1_ n2_ n3_; (try (have HP63 := Kd.R_putg HO_8.out ((rd t233 x11_2) : Int) true)); (try (obtain ⟨hx60_0, hf60_0⟩ := Kd.R_celln false HO_8.out ((rd t233 x11_2) : Int) (of_eq_true p60) (of_eq_true q60))))); refine store_event (t := 4) (p := 102) (v := ?vo_w64) (w1 := (wr.setCell ⟨go13, ((rd t233 x11_2) : Int).toNat, none⟩ (.bool true))) ?hg ?ho ?hn ?hr ?_; (case ho => rfl); (case hg => rfl); (case hn => rfl); (case hr => first | (go_simp; done) | (go_simp; rfl)); intro w64 hw; have hg : wr.grownBy w64 (some go13) := (by rw [hw]; exact HP63.2); have hp_ : Kd.R Kd.bool 4 w64 w.heap.size (fun _ => True) (.slice (some ⟨go13, 0, none⟩) x8_2.length co13) y268 := (by rw [hw, Ny268.out]; exact HP63.1); clear HP63; have n0_ := Aside0.mk (Kd.R_over' (v := (.slice (some ⟨go13, 0, none⟩) x8_2.length co13)) (by (with_reducible repeat (first | apply Kd.R_alloc | apply Kd.R_drewN | apply Kd.R_drew)); exact HO_7.out) (Kd.R_typed HO_8.out) (by decide) hg); have n1_ := Aside0.mk (hp_); have n2_ := Aside0.mk (Kd.R_over' (v := (.slice (some ⟨go13, 0, none⟩) x8_2.length co13)) (by (with_reducible repeat (first | apply Kd.R_alloc | apply Kd.R_drewN | apply Kd.R_drew)); exact HO_9.out) (Kd.R_typed HO_8.out) (by decide) hg); have n3_ := Aside0.mk ((by rw [hw]; exact below_set (HB.out) GB13.out : Below w.heap.size w w64)); clear HO_7; clear HO_8; clear HO_9; clear HB; have HO_7 := n0_; have HO_8 := n1_; have HO_9 := n2_; have HB := n3_; clear n0_ n1_ n2_ n3_; clear hg hw hp_; have p269 : 0 ≤ (x11_2 : Int) := of_decide_eq_true (by first | (with_reducible assumption) | assumption); have q269 : x11_2 < (t233.length : Int) := of_decide_eq_true (by first | (with_reducible assumption) | assumption); obtain ⟨ad269, e269, hx269_0⟩ := Kd.at_int (Kd.R_reads' HO_7.out).2.2 x11_2 p269 q269; obtain rfl : ad239 = ad269 := (by injection e269); replace p269 := eq_true p269; replace q269 := eq_true q269) | ((with_reducible refine gate_builtin (b := .append) (xs := #[.tmp 103, .tmp 108]) rfl ?_); at_builtin; refine Kd.R_append (Kd.int .i64) (w0 := w) w.heap.size rfl (.tmp 103) (.tmp 108) 32 3 (.int .i64 0) 8 rfl Try.underlying32 info3 rfl (by decide) (by omega) (.slice (some ad246) x9_2.length co62) x9_2 (rd t233 x11_2) [.int .i64 (rd t233 x11_2)] (fun k_ => some k_ ≠ (.slice (some ad239) t233.length co15 : Value).ownBlock) (fun _ => False) rfl rfl ?aP (fun _ hk => hk.elim) ?aF ?aO ?aB ?aS ?aL ?_; (case aP => exact rfl); (case aB => exact (by repeat (first | (with_reducible first | exact HB.out | apply below_alloc | apply pw_below_drewN | apply below_drew1) | exact HB.out))); (case aF => exact (fun k_ hk => Kd.fresh' (Kd.R_lt (by (with_reducible repeat (first | apply Kd.R_alloc | apply Kd.R_drewN | apply Kd.R_drew)); exact HO_7.out)) k_ hk)); (case aO => exact (by (with_reducible repeat (first | apply Kd.R_alloc | apply Kd.R_drewN | apply Kd.R_drew)); exact HO_9.out)); (case aS => exact (below_size (by repeat (first | (with_reducible first | exact HB.out | apply below_alloc | apply pw_below_drewN | apply below_drew1) | exact HB.out)))); (case aL => have := LMc61.out; omega); intro v271 w65 ho hb hg hat; rw [← Ny270.out] at ho; have n0_ := Aside0.mk (Kd.R_after (ok := (fun _ => True)) (by (with_reducible repeat (first | apply Kd.R_alloc | apply Kd.R_drewN | apply Kd.R_drew)); exact Kd.R_mono HO_7.out (fun _ hk => ⟨trivial, hk⟩)) hg hat); have n1_ := Aside0.mk (Kd.R_over' (by (with_reducible repeat (first | apply Kd.R_alloc | apply Kd.R_drewN | apply Kd.R_drew)); exact HO_8.out) (Kd.R_typed (by (with_reducible repeat (first | apply Kd.R_alloc | apply Kd.R_drewN | apply Kd.R_drew)); exact HO_9.out)) (by decide) hg); have n2_ := Aside0.mk (hb); have n3_ := Aside0.mk (ho); clear HO_7; clear HO_8; clear HB; clear HO_9; have HO_7 := n0_; have HO_8 := n1_; have HB := n2_; have HO272 := n3_; clear n0_ n1_ n2_ n3_; clear ho hb hg hat)))
                                                  (try simp only [← hl8_2])
                                                  go_roundg k2
                                                  case measure => have := HK1.out; have := HK2.out; omega
                                                  case rel => exact ⟨(y268), (y270), (wrap64 (x11_2 + 1)), (by first | rfl | (simp; done) | (simp [*]; done)), H', ⟨by have := HK1.out; have := HK2.out; omega⟩, ⟨by (try simp only [hl8_1]); (try simp only [hl8_2]); (with_reducible repeat (first | apply Kd.R_alloc | apply Kd.R_drewN | apply Kd.R_drew)); exact Kd.R_mono HO_7.out (fun _ hk => hk.2)⟩, ⟨by (try simp only [hl8_1]); (try simp only [hl8_2]); (with_reducible repeat (first | apply Kd.R_alloc | apply Kd.R_drewN | apply Kd.R_drew)); exact HO_8.out⟩, ⟨by (try simp only [hl8_1]); (try simp only [hl8_2]); (with_reducible repeat (first | apply Kd.R_alloc | apply Kd.R_drewN | apply Kd.R_drew)); exact HO272.out⟩, ⟨by repeat (first | (with_reducible first | exact HB.out | apply below_alloc | apply pw_below_drewN | apply below_drew1) | exact HB.out)⟩⟩
                                                · rw [if_neg c61] at H
                                                  exact absurd H (by simp)
                                            · rw [if_neg c56] at H
                                              exact absurd H (by simp)
                                          · rw [if_neg c55] at H
                                            exact absurd H (by simp)
                                        · rw [if_neg c54] at H
                                          have c54b0 : ((wrap64 (Int.tdiv (rd t233 x11_2) a1)) == (wrap64 (Int.tdiv (rd x9_2 x10_1) a1))) = false := beq_eq_false_iff_ne.mpr c54
                                          have c54b1 : ((wrap64 (Int.tdiv (rd t233 x11_2) a1)) != (wrap64 (Int.tdiv (rd x9_2 x10_1) a1))) = true := bne_iff_ne.mpr c54
                                          have H' := Aside0.mk H
                                          clear H
                                          have p245 : 0 ≤ (x11_2 : Int) := of_decide_eq_true (by first | (with_reducible assumption) | assumption)
                                          have q245 : x11_2 < (t233.length : Int) := of_decide_eq_true (by first | (with_reducible assumption) | assumption)
                                          obtain ⟨ad245, e245, hx245_0⟩ := Kd.at_int (Kd.R_reads' HO_7.out).2.2 x11_2 p245 q245
                                          obtain rfl : ad239 = ad245 := (by injection e245)
                                          replace p245 := eq_true p245
                                          replace q245 := eq_true q245
                                          obtain ⟨Ao66, co66, eo66⟩ := Kd.R_slice HO_9.out
                                          subst eo66
                                          have p246 : 0 ≤ (x10_1 : Int) := of_decide_eq_true (by first | (with_reducible assumption) | assumption)
                                          have q246 : x10_1 < (x9_2.length : Int) := of_decide_eq_true (by first | (with_reducible assumption) | assumption)
                                          obtain ⟨ad246, e246, hx246_0⟩ := Kd.at_int (Kd.R_reads' HO_9.out).2.2 x10_1 p246 q246
                                          cases e246
                                          replace p246 := eq_true p246
                                          replace q246 := eq_true q246
                                          have p263 : 0 ≤ (x11_2 : Int) := of_decide_eq_true (by first | (with_reducible assumption) | assumption)
                                          have q263 : x11_2 < (t233.length : Int) := of_decide_eq_true (by first | (with_reducible assumption) | assumption)
                                          obtain ⟨ad263, e263, hx263_0⟩ := Kd.at_int (Kd.R_reads' HO_7.out).2.2 x11_2 p263 q263
                                          obtain rfl : ad239 = ad263 := (by injection e263)
                                          replace p263 := eq_true p263
                                          replace q263 := eq_true q263
                                          have p264 : 0 ≤ (x10_1 : Int) := of_decide_eq_true (by first | (with_reducible assumption) | assumption)
                                          have q264 : x10_1 < (x9_2.length : Int) := of_decide_eq_true (by first | (with_reducible assumption) | assumption)
                                          obtain ⟨ad264, e264, hx264_0⟩ := Kd.at_int (Kd.R_reads' HO_9.out).2.2 x10_1 p264 q264
                                          obtain rfl : ad246 = ad264 := (by injection e264)
                                          replace p264 := eq_true p264
                                          replace q264 := eq_true q264
                                          go_wp2
                                          repeat (go_quiet (fail); try go_wp2)
                                          (try simp only [← hl8_2])
                                          go_roundg k2
                                          case measure => have := HK1.out; have := HK2.out; omega
                                          case rel => exact ⟨(x8_2), (x9_2), (wrap64 (x11_2 + 1)), (by first | rfl | (simp; done) | (simp [*]; done)), H', ⟨by have := HK1.out; have := HK2.out; omega⟩, ⟨by (try simp only [hl8_1]); (try simp only [hl8_2]); (with_reducible repeat (first | apply Kd.R_alloc | apply Kd.R_drewN | apply Kd.R_drew)); exact HO_7.out⟩, ⟨by (try simp only [hl8_1]); (try simp only [hl8_2]); (with_reducible repeat (first | apply Kd.R_alloc | apply Kd.R_drewN | apply Kd.R_drew)); exact HO_8.out⟩, ⟨by (try simp only [hl8_1]); (try simp only [hl8_2]); (with_reducible repeat (first | apply Kd.R_alloc | apply Kd.R_drewN | apply Kd.R_drew)); exact HO_9.out⟩, ⟨by repeat (first | (with_reducible first | exact HB.out | apply below_alloc | apply pw_below_drewN | apply below_drew1) | exact HB.out)⟩⟩
                                    · rw [if_neg c52] at H
                                      have c52b0 : ((wrap64 ((rd t233 x11_2) - (rd x9_2 x10_1))) == 1) = false := beq_eq_false_iff_ne.mpr c52
                                      have c52b1 : ((wrap64 ((rd t233 x11_2) - (rd x9_2 x10_1))) != 1) = true := bne_iff_ne.mpr c52
                                      by_cases c67 : (wrap64 ((rd t233 x11_2) - (rd x9_2 x10_1))) = (-1)
                                      · rw [if_pos c67] at H
                                        have c67b0 : ((wrap64 ((rd t233 x11_2) - (rd x9_2 x10_1))) == (-1)) = true := beq_iff_eq.mpr c67
                                        have c67b1 : ((wrap64 ((rd t233 x11_2) - (rd x9_2 x10_1))) != (-1)) = false := bne_eq_false_iff_eq.mpr c67
                                        clear c67
                                        by_cases c68 : a1 = 0
                                        · rw [if_pos c68] at H
                                          exact absurd H (by simp)
                                        · rw [if_neg c68] at H
                                          have c68b0 : (a1 == 0) = false := beq_eq_false_iff_ne.mpr c68
                                          have c68b1 : (a1 != 0) = true := bne_iff_ne.mpr c68
                                          by_cases c69 : (wrap64 (Int.tdiv (rd t233 x11_2) a1)) = (wrap64 (Int.tdiv (rd x9_2 x10_1) a1))
                                          · rw [if_pos c69] at H
                                            have c69b0 : ((wrap64 (Int.tdiv (rd t233 x11_2) a1)) == (wrap64 (Int.tdiv (rd x9_2 x10_1) a1))) = true := beq_iff_eq.mpr c69
                                            have c69b1 : ((wrap64 (Int.tdiv (rd t233 x11_2) a1)) != (wrap64 (Int.tdiv (rd x9_2 x10_1) a1))) = false := bne_eq_false_iff_eq.mpr c69
                                            clear c69
                                            by_cases c70 : 0 ≤ (rd t233 x11_2)
                                            · rw [if_pos c70] at H
                                              have c70b0 : decide (0 ≤ (rd t233 x11_2)) = true := decide_eq_true c70
                                              clear c70
                                              by_cases c71 : (rd t233 x11_2) < (x8_2.length : Int)
                                              · rw [if_pos c71] at H
                                                have c71b0 : decide ((rd t233 x11_2) < (x8_2.length : Int)) = true := decide_eq_true c71
                                                clear c71
                                                obtain ⟨bq72, hbq72⟩ : ∃ b_ : Bool, b_ = (rdOf false x8_2 (rd t233 x11_2)) := ⟨_, rfl⟩
                                                replace H : (if (bq72 = true) then (spec_RegionConnected.l1 k2 a1 t233 x8_2 x9_2 x10_1 (wrap64 (x11_2 + 1))) else (if x9_2.length < 17592186044416 then (spec_RegionConnected.l1 k2 a1 t233 (x8_2.set ((rd t233 x11_2) : Int).toNat true) (x9_2 ++ [rd t233 x11_2]) x10_1 (wrap64 (x11_2 + 1))) else (none))) = some r := by rw [← hbq72] at H; exact H
                                                have Nbq72 := Aside0.mk hbq72
                                                clear hbq72
                                                by_cases c73 : (bq72 = true)
                                                · subst c73
                                                  have H1 : (spec_RegionConnected.l1 k2 a1 t233 x8_2 x9_2 x10_1 (wrap64 (x11_2 + 1))) = some r := by rw [if_pos rfl] at H; exact H
                                                  clear H
                                                  have H := H1
                                                  clear H1
                                                  have H' := Aside0.mk H
                                                  clear H
                                                  have p245 : 0 ≤ (x11_2 : Int) := of_decide_eq_true (by first | (with_reducible assumption) | assumption)
                                                  have q245 : x11_2 < (t233.length : Int) := of_decide_eq_true (by first | (with_reducible assumption) | assumption)
                                                  obtain ⟨ad245, e245, hx245_0⟩ := Kd.at_int (Kd.R_reads' HO_7.out).2.2 x11_2 p245 q245
                                                  obtain rfl : ad239 = ad245 := (by injection e245)
                                                  replace p245 := eq_true p245
                                                  replace q245 := eq_true q245
                                                  obtain ⟨Ao74, co74, eo74⟩ := Kd.R_slice HO_9.out
                                                  subst eo74
                                                  have p246 : 0 ≤ (x10_1 : Int) := of_decide_eq_true (by first | (with_reducible assumption) | assumption)
                                                  have q246 : x10_1 < (x9_2.length : Int) := of_decide_eq_true (by first | (with_reducible assumption) | assumption)
                                                  obtain ⟨ad246, e246, hx246_0⟩ := Kd.at_int (Kd.R_reads' HO_9.out).2.2 x10_1 p246 q246
                                                  cases e246
                                                  replace p246 := eq_true p246
                                                  replace q246 := eq_true q246
                                                  have p273 : 0 ≤ (x11_2 : Int) := of_decide_eq_true (by first | (with_reducible assumption) | assumption)
                                                  have q273 : x11_2 < (t233.length : Int) := of_decide_eq_true (by first | (with_reducible assumption) | assumption)
                                                  obtain ⟨ad273, e273, hx273_0⟩ := Kd.at_int (Kd.R_reads' HO_7.out).2.2 x11_2 p273 q273
                                                  obtain rfl : ad239 = ad273 := (by injection e273)
                                                  replace p273 := eq_true p273
                                                  replace q273 := eq_true q273
                                                  have p274 : 0 ≤ (x10_1 : Int) := of_decide_eq_true (by first | (with_reducible assumption) | assumption)
                                                  have q274 : x10_1 < (x9_2.length : Int) := of_decide_eq_true (by first | (with_reducible assumption) | assumption)
                                                  obtain ⟨ad274, e274, hx274_0⟩ := Kd.at_int (Kd.R_reads' HO_9.out).2.2 x10_1 p274 q274
                                                  obtain rfl : ad246 = ad274 := (by injection e274)
                                                  replace p274 := eq_true p274
                                                  replace q274 := eq_true q274
                                                  have p275 : 0 ≤ (x11_2 : Int) := of_decide_eq_true (by first | (with_reducible assumption) | assumption)
                                                  have q275 : x11_2 < (t233.length : Int) := of_decide_eq_true (by first | (with_reducible assumption) | assumption)
                                                  obtain ⟨ad275, e275, hx275_0⟩ := Kd.at_int (Kd.R_reads' HO_7.out).2.2 x11_2 p275 q275
                                                  obtain rfl : ad239 = ad275 := (by injection e275)
                                                  replace p275 := eq_true p275
                                                  replace q275 := eq_true q275
                                                  have p276 : 0 ≤ ((rd t233 x11_2) : Int) := of_decide_eq_true (by first | (with_reducible assumption) | assumption)
                                                  have q276 : (rd t233 x11_2) < (x8_2.length : Int) := of_decide_eq_true (by first | (with_reducible assumption) | assumption)
                                                  obtain ⟨ad276, e276, hx276_0⟩ := Kd.at_bool (Kd.R_reads' HO_8.out).2.2 (rd t233 x11_2) p276 q276
                                                  (try rw [← Nbq72.out] at hx276_0)
                                                  obtain rfl : (⟨go13, 0, none⟩ : Addr) = ad276 := (by injection e276)
                                                  (first | simp only [add_plain] at hx276_0 | simp only [add_at] at hx276_0 | simp only [Addr.add, Nat.zero_add] at hx276_0 | skip)
                                                  replace p276 := eq_true p276
                                                  replace q276 := eq_true q276
                                                  go_wp2
                                                  repeat (go_quiet (fail); try go_wp2)
                                                  (try simp only [← hl8_2])
                                                  go_roundg k2
                                                  case measure => have := HK1.out; have := HK2.out; omega
                                                  case rel => exact ⟨(x8_2), (x9_2), (wrap64 (x11_2 + 1)), (by first | rfl | (simp; done) | (simp [*]; done)), H', ⟨by have := HK1.out; have := HK2.out; omega⟩, ⟨by (try simp only [hl8_1]); (try simp only [hl8_2]); (with_reducible repeat (first | apply Kd.R_alloc | apply Kd.R_drewN | apply Kd.R_drew)); exact HO_7.out⟩, ⟨by (try simp only [hl8_1]); (try simp only [hl8_2]); (with_reducible repeat (first | apply Kd.R_alloc | apply Kd.R_drewN | apply Kd.R_drew)); exact HO_8.out⟩, ⟨by (try simp only [hl8_1]); (try simp only [hl8_2]); (with_reducible repeat (first | apply Kd.R_alloc | apply Kd.R_drewN | apply Kd.R_drew)); exact HO_9.out⟩, ⟨by repeat (first | (with_reducible first | exact HB.out | apply below_alloc | apply pw_below_drewN | apply below_drew1) | exact HB.out)⟩⟩
                                                · replace c73 := Bool.eq_false_iff.mpr c73
                                                  subst c73
                                                  have H1 : (if x9_2.length < 17592186044416 then (spec_RegionConnected.l1 k2 a1 t233 (x8_2.set ((rd t233 x11_2) : Int).toNat true) (x9_2 ++ [rd t233 x11_2]) x10_1 (wrap64 (x11_2 + 1))) else (none)) = some r := by rw [if_neg (show ¬ (false = true) by decide)] at H; exact H
                                                  clear H
                                                  have H := H1
                                                  clear H1
                                                  obtain ⟨y278, hy278⟩ : ∃ y_ : List Bool, y_ = (x8_2.set ((rd t233 x11_2) : Int).toNat true) := ⟨_, rfl⟩
                                                  replace H : (if x9_2.length < 17592186044416 then (spec_RegionConnected.l1 k2 a1 t233 y278 (x9_2 ++ [rd t233 x11_2]) x10_1 (wrap64 (x11_2 + 1))) else (none)) = some r := by first | (rw [hy278]; with_reducible exact H) | (have H2_ := (Option.bind_some _ _).symm.trans H; rw [hy278]; with_reducible exact H2_) | (have H2_ := (Option.bind_some _ _).symm.trans H; with_reducible exact H2_) | with_reducible exact H | (rw [hy278]; exact H) | exact H
                                                  have Ny278 := Aside0.mk hy278
                                                  clear hy278
                                                  by_cases c76 : x9_2.length < 17592186044416
                                                  · rw [if_pos c76] at H
                                                    have LMc76 := Aside0.mk c76
                                                    clear c76
                                                    obtain ⟨y280, hy280⟩ : ∃ y_ : List Int, y_ = (x9_2 ++ [rd t233 x11_2]) := ⟨_, rfl⟩
                                                    replace H : (spec_RegionConnected.l1 k2 a1 t233 y278 y280 x10_1 (wrap64 (x11_2 + 1))) = some r := by first | (rw [hy280]; with_reducible exact H) | (have H2_ := (Option.bind_some _ _).symm.trans H; rw [hy280]; with_reducible exact H2_) | (have H2_ := (Option.bind_some _ _).symm.trans H; with_reducible exact H2_) | with_reducible exact H | (rw [hy280]; exact H) | exact H
                                                    have Ny280 := Aside0.mk hy280
                                                    clear hy280
                                                    have H' := Aside0.mk H
                                                    clear H
                                                    have p245 : 0 ≤ (x11_2 : Int) := of_decide_eq_true (by first | (with_reducible assumption) | assumption)
                                                    have q245 : x11_2 < (t233.length : Int) := of_decide_eq_true (by first | (with_reducible assumption) | assumption)
                                                    obtain ⟨ad245, e245, hx245_0⟩ := Kd.at_int (Kd.R_reads' HO_7.out).2.2 x11_2 p245 q245
                                                    obtain rfl : ad239 = ad245 := (by injection e245)
                                                    replace p245 := eq_true p245
                                                    replace q245 := eq_true q245
                                                    obtain ⟨Ao77, co77, eo77⟩ := Kd.R_slice HO_9.out
                                                    subst eo77
                                                    have p246 : 0 ≤ (x10_1 : Int) := of_decide_eq_true (by first | (with_reducible assumption) | assumption)
                                                    have q246 : x10_1 < (x9_2.length : Int) := of_decide_eq_true (by first | (with_reducible assumption) | assumption)
                                                    obtain ⟨ad246, e246, hx246_0⟩ := Kd.at_int (Kd.R_reads' HO_9.out).2.2 x10_1 p246 q246
                                                    cases e246
                                                    replace p246 := eq_true p246
                                                    replace q246 := eq_true q246
                                                    have p273 : 0 ≤ (x11_2 : Int) := of_decide_eq_true (by first | (with_reducible assumption) | assumption)
                                                    have q273 : x11_2 < (t233.length : Int) := of_decide_eq_true (by first | (with_reducible assumption) | assumption)
                                                    obtain ⟨ad273, e273, hx273_0⟩ := Kd.at_int (Kd.R_reads' HO_7.out).2.2 x11_2 p273 q273
                                                    obtain rfl : ad239 = ad273 := (by injection e273)
                                                    replace p273 := eq_true p273
                                                    replace q273 := eq_true q273
                                                    have p274 : 0 ≤ (x10_1 : Int) := of_decide_eq_true (by first | (with_reducible assumption) | assumption)
                                                    have q274 : x10_1 < (x9_2.length : Int) := of_decide_eq_true (by first | (with_reducible assumption) | assumption)
                                                    obtain ⟨ad274, e274, hx274_0⟩ := Kd.at_int (Kd.R_reads' HO_9.out).2.2 x10_1 p274 q274
                                                    obtain rfl : ad246 = ad274 := (by injection e274)
                                                    replace p274 := eq_true p274
                                                    replace q274 := eq_true q274
                                                    have p275 : 0 ≤ (x11_2 : Int) := of_decide_eq_true (by first | (with_reducible assumption) | assumption)
                                                    have q275 : x11_2 < (t233.length : Int) := of_decide_eq_true (by first | (with_reducible assumption) | assumption)
                                                    obtain ⟨ad275, e275, hx275_0⟩ := Kd.at_int (Kd.R_reads' HO_7.out).2.2 x11_2 p275 q275
                                                    obtain rfl : ad239 = ad275 := (by injection e275)
                                                    replace p275 := eq_true p275
                                                    replace q275 := eq_true q275
                                                    have p276 : 0 ≤ ((rd t233 x11_2) : Int) := of_decide_eq_true (by first | (with_reducible assumption) | assumption)
                                                    have q276 : (rd t233 x11_2) < (x8_2.length : Int) := of_decide_eq_true (by first | (with_reducible assumption) | assumption)
                                                    obtain ⟨ad276, e276, hx276_0⟩ := Kd.at_bool (Kd.R_reads' HO_8.out).2.2 (rd t233 x11_2) p276 q276
                                                    (try rw [← Nbq72.out] at hx276_0)
                                                    obtain rfl : (⟨go13, 0, none⟩ : Addr) = ad276 := (by injection e276)
                                                    (first | simp only [add_plain] at hx276_0 | simp only [add_at] at hx276_0 | simp only [Addr.add, Nat.zero_add] at hx276_0 | skip)
                                                    replace p276 := eq_true p276
                                                    replace q276 := eq_true q276
                                                    have p277 : 0 ≤ (x11_2 : Int) := of_decide_eq_true (by first | (with_reducible assumption) | assumption)
                                                    have q277 : x11_2 < (t233.length : Int) := of_decide_eq_true (by first | (with_reducible assumption) | assumption)
                                                    obtain ⟨ad277, e277, hx277_0⟩ := Kd.at_int (Kd.R_reads' HO_7.out).2.2 x11_2 p277 q277
                                                    obtain rfl : ad239 = ad277 := (by injection e277)
                                                    replace p277 := eq_true p277
                                                    replace q277 := eq_true q277
                                                    have p75 : 0 ≤ ((rd t233 x11_2) : Int) := of_decide_eq_true (by first | (with_reducible assumption) | assumption)
                                                    have q75 : ((rd t233 x11_2) : Int) < ((x8_2.length : Int) : Int) := of_decide_eq_true (by first | (with_reducible assumption) | assumption)
                                                    obtain ⟨hx75_0, hf75_0⟩ := Kd.R_celln false HO_8.out ((rd t233 x11_2) : Int) p75 q75
                                                    replace p75 := eq_true p75
                                                    replace q75 := eq_true q75
                                                    have HP78 := Kd.R_putg HO_8.out ((rd t233 x11_2) : Int) true
                                                    go_wp2_with (first | ((with_reducible refine gate_store (t := 4) (p := 102) rfl ?_); (try (rw [drewN_self wr]; generalize hq_ : World.drewN wr _ = wr; have n0_ := Aside0.mk (Kd.R_at hq_ HO_7.out); have n1_ := Aside0.mk (Kd.R_at hq_ HO_8.out); have n2_ := Aside0.mk (Kd.R_at hq_ HO_9.out); have n3_ := Aside0.mk (below_at hq_ HB.out); clear hq_ HO_7 HO_8 HO_9 HB; have HO_7 := n0_; have HO_8 := n1_; have HO_9 := n2_; have HB := n3_; clear n0_ n1_ n2_ n3_; (try (have HP78 := Kd.R_putg HO_8.out ((rd t233 x11_2) : Int) true)); (try (obtain ⟨hx75_0, hf75_0⟩ := Kd.R_celln false HO_8.out ((rd t233 x11_2) : Int) (of_eq_true p75) (of_eq_true q75))))); refine store_event (t := 4) (p := 102) (v := ?vo_w79) (w1 := (wr.setCell ⟨go13, ((rd t233 x11_2) : Int).toNat, none⟩ (.bool true))) ?hg ?ho ?hn ?hr ?_; (case ho => rfl); (case hg => rfl); (case hn => rfl); (case hr => first | (go_simp; done) | (go_simp; rfl)); intro w79 hw; have hg : wr.grownBy w79 (some go13) := (by rw [hw]; exact HP78.2); have hp_ : Kd.R Kd.bool 4 w79 w.heap.size (fun _ => True) (.slice (some ⟨go13, 0, none⟩) x8_2.length co13) y278 := (by rw [hw, Ny278.out]; exact HP78.1); clear HP78; have n0_ := Aside0.mk (Kd.R_over' (v := (.slice (some ⟨go13, 0, none⟩) x8_2.length co13)) (by (with_reducible repeat (first | apply Kd.R_alloc | apply Kd.R_drewN | apply Kd.R_drew)); exact HO_7.out) (Kd.R_typed HO_8.out) (by decide) hg); have n1_ := Aside0.mk (hp_); have n2_ := Aside0.mk (Kd.R_over' (v := (.slice (some ⟨go13, 0, none⟩) x8_2.length co13)) (by (with_reducible repeat (first | apply Kd.R_alloc | apply Kd.R_drewN | apply Kd.R_drew)); exact HO_9.out) (Kd.R_typed HO_8.out) (by decide) hg); have n3_ := Aside0.mk ((by rw [hw]; exact below_set (HB.out) GB13.out : Below w.heap.size w w79)); clear HO_7; clear HO_8; clear HO_9; clear HB; have HO_7 := n0_; have HO_8 := n1_; have HO_9 := n2_; have HB := n3_; clear n0_ n1_ n2_ n3_; clear hg hw hp_; have p279 : 0 ≤ (x11_2 : Int) := of_decide_eq_true (by first | (with_reducible assumption) | assumption); have q279 : x11_2 < (t233.length : Int) := of_decide_eq_true (by first | (with_reducible assumption) | assumption); obtain ⟨ad279, e279, hx279_0⟩ := Kd.at_int (Kd.R_reads' HO_7.out).2.2 x11_2 p279 q279; obtain rfl : ad239 = ad279 := (by injection e279); replace p279 := eq_true p279; replace q279 := eq_true q279) | ((with_reducible refine gate_builtin (b := .append) (xs := #[.tmp 103, .tmp 108]) rfl ?_); at_builtin; refine Kd.R_append (Kd.int .i64) (w0 := w) w.heap.size rfl (.tmp 103) (.tmp 108) 32 3 (.int .i64 0) 8 rfl Try.underlying32 info3 rfl (by decide) (by omega) (.slice (some ad246) x9_2.length co77) x9_2 (rd t233 x11_2) [.int .i64 (rd t233 x11_2)] (fun k_ => some k_ ≠ (.slice (some ad239) t233.length co15 : Value).ownBlock) (fun _ => False) rfl rfl ?aP (fun _ hk => hk.elim) ?aF ?aO ?aB ?aS ?aL ?_; (case aP => exact rfl); (case aB => exact (by repeat (first | (with_reducible first | exact HB.out | apply below_alloc | apply pw_below_drewN | apply below_drew1) | exact HB.out))); (case aF => exact (fun k_ hk => Kd.fresh' (Kd.R_lt (by (with_reducible repeat (first | apply Kd.R_alloc | apply Kd.R_drewN | apply Kd.R_drew)); exact HO_7.out)) k_ hk)); (case aO => exact (by (with_reducible repeat (first | apply Kd.R_alloc | apply Kd.R_drewN | apply Kd.R_drew)); exact HO_9.out)); (case aS => exact (below_size (by repeat (first | (with_reducible first | exact HB.out | apply below_alloc | apply pw_below_drewN | apply below_drew1) | exact HB.out)))); (case aL => have := LMc76.out; omega); intro v281 w80 ho hb hg hat; rw [← Ny280.out] at ho; have n0_ := Aside0.mk (Kd.R_after (ok := (fun _ => True)) (by (with_reducible repeat (first | apply Kd.R_alloc | apply Kd.R_drewN | apply Kd.R_drew)); exact Kd.R_mono HO_7.out (fun _ hk => ⟨trivial, hk⟩)) hg hat); have n1_ := Aside0.mk (Kd.R_over' (by (with_reducible repeat (first | apply Kd.R_alloc | apply Kd.R_drewN | apply Kd.R_drew)); exact HO_8.out) (Kd.R_typed (by (with_reducible repeat (first | apply Kd.R_alloc | apply Kd.R_drewN | apply Kd.R_drew)); exact HO_9.out)) (by decide) hg); have n2_ := Aside0.mk (hb); have n3_ := Aside0.mk (ho); clear HO_7; clear HO_8; clear HB; clear HO_9; have HO_7 := n0_; have HO_8 := n1_; have HB := n2_; have HO282 := n3_; clear n0_ n1_ n2_ n3_; clear ho hb hg hat))
                                                    repeat (go_quiet (first | ((with_reducible refine gate_store (t := 4) (p := 102) rfl ?_); (try (rw [drewN_self wr]; generalize hq_ : World.drewN wr _ = wr; have n0_ := Aside0.mk (Kd.R_at hq_ HO_7.out); have n1_ := Aside0.mk (Kd.R_at hq_ HO_8.out); have n2_ := Aside0.mk (Kd.R_at hq_ HO_9.out); have n3_ := Aside0.mk (below_at hq_ HB.out); clear hq_ HO_7 HO_8 HO_9 HB; have HO_7 := n0_; have HO_8 := n1_; have HO_9 := n2_; have HB := n3_; clear n0_ n1_ n2_ n3_; (try (have HP78 := Kd.R_putg HO_8.out ((rd t233 x11_2) : Int) true)); (try (obtain ⟨hx75_0, hf75_0⟩ := Kd.R_celln false HO_8.out ((rd t233 x11_2) : Int) (of_eq_true p75) (of_eq_true q75))))); refine store_event (t := 4) (p := 102) (v := ?vo_w79) (w1 := (wr.setCell ⟨go13, ((rd t233 x11_2) : Int).toNat, none⟩ (.bool true))) ?hg ?ho ?hn ?hr ?_; (case ho => rfl); (case hg => rfl); (case hn => rfl); (case hr => first | (go_simp; done) | (go_simp; rfl)); intro w79 hw; have hg : wr.grownBy w79 (some go13) := (by rw [hw]; exact HP78.2); have hp_ : Kd.R Kd.bool 4 w79 w.heap.size (fun _ => True) (.slice (some ⟨go13, 0, none⟩) x8_2.length co13) y278 := (by rw [hw, Ny278.out]; exact HP78.1); clear HP78; have n0_ := Aside0.mk (Kd.R_over' (v := (.slice (some ⟨go13, 0, none⟩) x8_2.length co13)) (by (with_reducible repeat (first | apply Kd.R_alloc | apply Kd.R_drewN | apply Kd.R_drew)); exact HO_7.out) (Kd.R_typed HO_8.out) (by decide) hg); have n1_ := Aside0.mk (hp_); have n2_ := Aside0.mk (Kd.R_over' (v := (.slice (some ⟨go13, 0, none⟩) x8_2.length co13)) (by (with_reducible repeat (first | apply Kd.R_alloc | apply Kd.R_drewN | apply Kd.R_drew)); exact HO_9.out) (Kd.R_typed HO_8.out) (by decide) hg); have n3_ := Aside0.mk ((by rw [hw]; exact below_set (HB.out) GB13.out : Below w.heap.size w w79)); clear HO_7; clear HO_8; clear HO_9; clear HB; have HO_7 := n0_; have HO_8 := n1_; have HO_9 := n2_; have HB := n3_; clear n0_ n1_ n2_ n3_; clear hg hw hp_; have p279 : 0 ≤ (x11_2 : Int) := of_decide_eq_true (by first | (with_reducible assumption) | assumption); have q279 : x11_2 < (t233.length : Int) := of_decide_eq_true (by first | (with_reducible assumption) | assumption); obtain ⟨ad279, e279, hx279_0⟩ := Kd.at_int (Kd.R_reads' HO_7.out).2.2 x11_2 p279 q279; obtain rfl : ad239 = ad279 := (by injection e279); replace p279 := eq_true p279; replace q279 := eq_true q279) | ((with_reducible refine gate_builtin (b := .append) (xs := #[.tmp 103, .tmp 108]) rfl ?_); at_builtin; refine Kd.R_append (Kd.int .i64) (w0 := w) w.heap.size rfl (.tmp 103) (.tmp 108) 32 3 (.int .i64 0) 8 rfl Try.underlying32 info3 rfl (by decide) (by omega) (.slice (some ad246) x9_2.length co77) x9_2 (rd t233 x11_2) [.int .i64 (rd t233 x11_2)] (fun k_ => some k_ ≠ (.slice (some ad239) t233.length co15 : Value).ownBlock) (fun _ => False) rfl rfl ?aP (fun _ hk => hk.elim) ?aF ?aO ?aB ?aS ?aL ?_; (case aP => exact rfl); (case aB => exact (by repeat (first | (with_reducible first | exact HB.out | apply below_alloc | apply pw_below_drewN | apply below_drew1) | exact HB.out))); (case aF => exact (fun k_ hk => Kd.fresh' (Kd.R_lt (by (with_reducible repeat (first | apply Kd.R_alloc | apply Kd.R_drewN | apply Kd.R_drew)); exact HO_7.out)) k_ hk)); (case aO => exact (by (with_reducible repeat (first | apply Kd.R_alloc | apply Kd.R_drewN | apply Kd.R_drew)); exact HO_9.out)); (case aS => exact (below_size (by repeat (first | (with_reducible first | exact HB.out | apply below_alloc | apply pw_below_drewN | apply below_drew1) | exact HB.out)))); (case aL => have := LMc76.out; omega); intro v281 w80 ho hb hg hat; rw [← Ny280.out] at ho; have n0_ := Aside0.mk (Kd.R_after (ok := (fun _ => True)) (by (with_reducible repeat (first | apply Kd.R_alloc | apply Kd.R_drewN | apply Kd.R_drew)); exact Kd.R_mono HO_7.out (fun _ hk => ⟨trivial, hk⟩)) hg hat); have n1_ := Aside0.mk (Kd.R_over' (by (with_reducible repeat (first | apply Kd.R_alloc | apply Kd.R_drewN | apply Kd.R_drew)); exact HO_8.out) (Kd.R_typed (by (with_reducible repeat (first | apply Kd.R_alloc | apply Kd.R_drewN | apply Kd.R_drew)); exact HO_9.out)) (by decide) hg); have n2_ := Aside0.mk (hb); have n3_ := Aside0.mk (ho); clear HO_7; clear HO_8; clear HB; clear HO_9; have HO_7 := n0_; have HO_8 := n1_; have HB := n2_; have HO282 := n3_; clear n0_ n1_ n2_ n3_; clear ho hb hg hat)); try go_wp2_with (first | ((with_reducible refine gate_store (t := 4) (p := 102) rfl ?_); (try (rw [drewN_self wr]; generalize hq_ : World.drewN wr _ = wr; have n0_ := Aside0.mk (Kd.R_at hq_ HO_7.out); have n1_ := Aside0.mk (Kd.R_at hq_ HO_8.out); have n2_ := Aside0.mk (Kd.R_at hq_ HO_9.out); have n3_ := Aside0.mk (below_at hq_ HB.out); clear hq_ HO_7 HO_8 HO_9 HB; have HO_7 := n0_; have HO_8 := n1_; have HO_9 := n2_; have HB := n3_; clear n0_ n1_ n2_ n3_; (try (have HP78 := Kd.R_putg HO_8.out ((rd t233 x11_2) : Int) true)); (try (obtain ⟨hx75_0, hf75_0⟩ := Kd.R_celln false HO_8.out ((rd t233 x11_2) : Int) (of_eq_true p75) (of_eq_true q75))))); refine store_event (t := 4) (p := 102) (v := ?vo_w79) (w1 := (wr.setCell ⟨go13, ((rd t233 x11_2) : Int).toNat, none⟩ (.bool true))) ?hg ?ho ?hn ?hr ?_; (case ho => rfl); (case hg => rfl); (case hn => rfl); (case hr => first | (go_simp; done) | (go_simp; rfl)); intro w79 hw; have hg : wr.grownBy w79 (some go13) := (by rw [hw]; exact HP78.2); have hp_ : Kd.R Kd.bool 4 w79 w.heap.size (fun _ => True) (.slice (some ⟨go13, 0, none⟩) x8_2.length co13) y278 := (by rw [hw, Ny278.out]; exact HP78.1); clear HP78; have n0_ := Aside0.mk (Kd.R_over' (v := (.slice (some ⟨go13, 0, none⟩) x8_2.length co13)) (by (with_reducible repeat (first | apply Kd.R_alloc | apply Kd.R_drewN | apply Kd.R_drew)); exact HO_7.out) (Kd.R_typed HO_8.out) (by decide) hg); have n1_ := Aside0.mk (hp_); have n2_ := Aside0.mk (Kd.R_over' (v := (.slice (some ⟨go13, 0, none⟩) x8_2.length co13)) (by (with_reducible repeat (first | apply Kd.R_alloc | apply Kd.R_drewN | apply Kd.R_drew)); exact HO_9.out) (Kd.R_typed HO_8.out) (by decide) hg); have n3_ := Aside0.mk ((by rw [hw]; exact below_set (HB.out) GB13.out : Below w.heap.size w w79)); clear HO_7; clear HO_8; clear HO_9; clear HB; have HO_7 := n0_; have HO_8 := n1_; have HO_9 := n2_; have HB := n3_; clear n0_ n1_ n2_ n3_; clear hg hw hp_; have p279 : 0 ≤ (x11_2 : Int) := of_decide_eq_true (by first | (with_reducible assumption) | assumption); have q279 : x11_2 < (t233.length : Int) := of_decide_eq_true (by first | (with_reducible assumption) | assumption); obtain ⟨ad279, e279, hx279_0⟩ := Kd.at_int (Kd.R_reads' HO_7.out).2.2 x11_2 p279 q279; obtain rfl : ad239 = ad279 := (by injection e279); replace p279 := eq_true p279; replace q279 := eq_true q279) | ((with_reducible refine gate_builtin (b := .append) (xs := #[.tmp 103, .tmp 108]) rfl ?_); at_builtin; refine Kd.R_append (Kd.int .i64) (w0 := w) w.heap.size rfl (.tmp 103) (.tmp 108) 32 3 (.int .i64 0) 8 rfl Try.underlying32 info3 rfl (by decide) (by omega) (.slice (some ad246) x9_2.length co77) x9_2 (rd t233 x11_2) [.int .i64 (rd t233 x11_2)] (fun k_ => some k_ ≠ (.slice (some ad239) t233.length co15 : Value).ownBlock) (fun _ => False) rfl rfl ?aP (fun _ hk => hk.elim) ?aF ?aO ?aB ?aS ?aL ?_; (case aP => exact rfl); (case aB => exact (by repeat (first | (with_reducible first | exact HB.out | apply below_alloc | apply pw_below_drewN | apply below_drew1) | exact HB.out))); (case aF => exact (fun k_ hk => Kd.fresh' (Kd.R_lt (by (with_reducible repeat (first | apply Kd.R_alloc | apply Kd.R_drewN | apply Kd.R_drew)); exact HO_7.out)) k_ hk)); (case aO => exact (by (with_reducible repeat (first | apply Kd.R_alloc | apply Kd.R_drewN | apply Kd.R_drew)); exact HO_9.out)); (case aS => exact (below_size (by repeat (first | (with_reducible first | exact HB.out | apply below_alloc | apply pw_below_drewN | apply below_drew1) | exact HB.out)))); (case aL => have := LMc76.out; omega); intro v281 w80 ho hb hg hat; rw [← Ny280.out] at ho; have n0_ := Aside0.mk (Kd.R_after (ok := (fun _ => True)) (by (with_reducible repeat (first | apply Kd.R_alloc | apply Kd.R_drewN | apply Kd.R_drew)); exact Kd.R_mono HO_7.out (fun _ hk => ⟨trivial, hk⟩)) hg hat); have n1_ := Aside0.mk (Kd.R_over' (by (with_reducible repeat (first | apply Kd.R_alloc | apply Kd.R_drewN | apply Kd.R_drew)); exact HO_8.out) (Kd.R_typed (by (with_reducible repeat (first | apply Kd.R_alloc | apply Kd.R_drewN | apply Kd.R_drew)); exact HO_9.out)) (by decide) hg); have n2_ := Aside0.mk (hb); have n3_ := Aside0.mk (ho); clear HO_7; clear HO_8; clear HB; clear HO_9; have HO_7 := n0_; have HO_8 := n1_; have HB := n2_; have HO282 := n3_; clear n0_ n1_ n2_ n3_; clear ho hb hg hat)))
                                                    (try simp only [← hl8_2])
                                                    go_roundg k2
                                                    case measure => have := HK1.out; have := HK2.out; omega
                                                    case rel => exact ⟨(y278), (y280), (wrap64 (x11_2 + 1)), (by first | rfl | (simp; done) | (simp [*]; done)), H', ⟨by have := HK1.out; have := HK2.out; omega⟩, ⟨by (try simp only [hl8_1]); (try simp only [hl8_2]); (with_reducible repeat (first | apply Kd.R_alloc | apply Kd.R_drewN | apply Kd.R_drew)); exact Kd.R_mono HO_7.out (fun _ hk => hk.2)⟩, ⟨by (try simp only [hl8_1]); (try simp only [hl8_2]); (with_reducible repeat (first | apply Kd.R_alloc | apply Kd.R_drewN | apply Kd.R_drew)); exact HO_8.out⟩, ⟨by (try simp only [hl8_1]); (try simp only [hl8_2]); (with_reducible repeat (first | apply Kd.R_alloc | apply Kd.R_drewN | apply Kd.R_drew)); exact HO282.out⟩, ⟨by repeat (first | (with_reducible first | exact HB.out | apply below_alloc | apply pw_below_drewN | apply below_drew1) | exact HB.out)⟩⟩
                                                  · rw [if_neg c76] at H
                                                    exact absurd H (by simp)
                                              · rw [if_neg c71] at H
                                                exact absurd H (by simp)
                                            · rw [if_neg c70] at H
                                              exact absurd H (by simp)
                                          · rw [if_neg c69] at H
                                            have c69b0 : ((wrap64 (Int.tdiv (rd t233 x11_2) a1)) == (wrap64 (Int.tdiv (rd x9_2 x10_1) a1))) = false := beq_eq_false_iff_ne.mpr c69
                                            have c69b1 : ((wrap64 (Int.tdiv (rd t233 x11_2) a1)) != (wrap64 (Int.tdiv (rd x9_2 x10_1) a1))) = true := bne_iff_ne.mpr c69
                                            have H' := Aside0.mk H
                                            clear H
                                            have p245 : 0 ≤ (x11_2 : Int) := of_decide_eq_true (by first | (with_reducible assumption) | assumption)
                                            have q245 : x11_2 < (t233.length : Int) := of_decide_eq_true (by first | (with_reducible assumption) | assumption)
                                            obtain ⟨ad245, e245, hx245_0⟩ := Kd.at_int (Kd.R_reads' HO_7.out).2.2 x11_2 p245 q245
                                            obtain rfl : ad239 = ad245 := (by injection e245)
                                            replace p245 := eq_true p245
                                            replace q245 := eq_true q245
                                            obtain ⟨Ao81, co81, eo81⟩ := Kd.R_slice HO_9.out
                                            subst eo81
                                            have p246 : 0 ≤ (x10_1 : Int) := of_decide_eq_true (by first | (with_reducible assumption) | assumption)
                                            have q246 : x10_1 < (x9_2.length : Int) := of_decide_eq_true (by first | (with_reducible assumption) | assumption)
                                            obtain ⟨ad246, e246, hx246_0⟩ := Kd.at_int (Kd.R_reads' HO_9.out).2.2 x10_1 p246 q246
                                            cases e246
                                            replace p246 := eq_true p246
                                            replace q246 := eq_true q246
                                            have p273 : 0 ≤ (x11_2 : Int) := of_decide_eq_true (by first | (with_reducible assumption) | assumption)
                                            have q273 : x11_2 < (t233.length : Int) := of_decide_eq_true (by first | (with_reducible assumption) | assumption)
                                            obtain ⟨ad273, e273, hx273_0⟩ := Kd.at_int (Kd.R_reads' HO_7.out).2.2 x11_2 p273 q273
                                            obtain rfl : ad239 = ad273 := (by injection e273)
                                            replace p273 := eq_true p273
                                            replace q273 := eq_true q273
                                            have p274 : 0 ≤ (x10_1 : Int) := of_decide_eq_true (by first | (with_reducible assumption) | assumption)
                                            have q274 : x10_1 < (x9_2.length : Int) := of_decide_eq_true (by first | (with_reducible assumption) | assumption)
                                            obtain ⟨ad274, e274, hx274_0⟩ := Kd.at_int (Kd.R_reads' HO_9.out).2.2 x10_1 p274 q274
                                            obtain rfl : ad246 = ad274 := (by injection e274)
                                            replace p274 := eq_true p274
                                            replace q274 := eq_true q274
                                            go_wp2
                                            repeat (go_quiet (fail); try go_wp2)
                                            (try simp only [← hl8_2])
                                            go_roundg k2
                                            case measure => have := HK1.out; have := HK2.out; omega
                                            case rel => exact ⟨(x8_2), (x9_2), (wrap64 (x11_2 + 1)), (by first | rfl | (simp; done) | (simp [*]; done)), H', ⟨by have := HK1.out; have := HK2.out; omega⟩, ⟨by (try simp only [hl8_1]); (try simp only [hl8_2]); (with_reducible repeat (first | apply Kd.R_alloc | apply Kd.R_drewN | apply Kd.R_drew)); exact HO_7.out⟩, ⟨by (try simp only [hl8_1]); (try simp only [hl8_2]); (with_reducible repeat (first | apply Kd.R_alloc | apply Kd.R_drewN | apply Kd.R_drew)); exact HO_8.out⟩, ⟨by (try simp only [hl8_1]); (try simp only [hl8_2]); (with_reducible repeat (first | apply Kd.R_alloc | apply Kd.R_drewN | apply Kd.R_drew)); exact HO_9.out⟩, ⟨by repeat (first | (with_reducible first | exact HB.out | apply below_alloc | apply pw_below_drewN | apply below_drew1) | exact HB.out)⟩⟩
                                      · rw [if_neg c67] at H
                                        have c67b0 : ((wrap64 ((rd t233 x11_2) - (rd x9_2 x10_1))) == (-1)) = false := beq_eq_false_iff_ne.mpr c67
                                        have c67b1 : ((wrap64 ((rd t233 x11_2) - (rd x9_2 x10_1))) != (-1)) = true := bne_iff_ne.mpr c67
                                        have H' := Aside0.mk H
                                        clear H
                                        have p245 : 0 ≤ (x11_2 : Int) := of_decide_eq_true (by first | (with_reducible assumption) | assumption)
                                        have q245 : x11_2 < (t233.length : Int) := of_decide_eq_true (by first | (with_reducible assumption) | assumption)
                                        obtain ⟨ad245, e245, hx245_0⟩ := Kd.at_int (Kd.R_reads' HO_7.out).2.2 x11_2 p245 q245
                                        obtain rfl : ad239 = ad245 := (by injection e245)
                                        replace p245 := eq_true p245
                                        replace q245 := eq_true q245
                                        obtain ⟨Ao82, co82, eo82⟩ := Kd.R_slice HO_9.out
                                        subst eo82
                                        have p246 : 0 ≤ (x10_1 : Int) := of_decide_eq_true (by first | (with_reducible assumption) | assumption)
                                        have q246 : x10_1 < (x9_2.length : Int) := of_decide_eq_true (by first | (with_reducible assumption) | assumption)
                                        obtain ⟨ad246, e246, hx246_0⟩ := Kd.at_int (Kd.R_reads' HO_9.out).2.2 x10_1 p246 q246
                                        cases e246
                                        replace p246 := eq_true p246
                                        replace q246 := eq_true q246
                                        go_wp2
                                        repeat (go_quiet (fail); try go_wp2)
                                        (try simp only [← hl8_2])
                                        go_roundg k2
                                        case measure => have := HK1.out; have := HK2.out; omega
                                        case rel => exact ⟨(x8_2), (x9_2), (wrap64 (x11_2 + 1)), (by first | rfl | (simp; done) | (simp [*]; done)), H', ⟨by have := HK1.out; have := HK2.out; omega⟩, ⟨by (try simp only [hl8_1]); (try simp only [hl8_2]); (with_reducible repeat (first | apply Kd.R_alloc | apply Kd.R_drewN | apply Kd.R_drew)); exact HO_7.out⟩, ⟨by (try simp only [hl8_1]); (try simp only [hl8_2]); (with_reducible repeat (first | apply Kd.R_alloc | apply Kd.R_drewN | apply Kd.R_drew)); exact HO_8.out⟩, ⟨by (try simp only [hl8_1]); (try simp only [hl8_2]); (with_reducible repeat (first | apply Kd.R_alloc | apply Kd.R_drewN | apply Kd.R_drew)); exact HO_9.out⟩, ⟨by repeat (first | (with_reducible first | exact HB.out | apply below_alloc | apply pw_below_drewN | apply below_drew1) | exact HB.out)⟩⟩
                              · rw [if_neg c27] at H
                                exact absurd H (by simp)
                            · rw [if_neg c26] at H
                              exact absurd H (by simp)
                          · rw [if_neg c25] at H
                            exact absurd H (by simp)
                        · rw [if_neg c24] at H
                          have c24b0 : decide (x11_2 < (t233.length : Int)) = false := decide_eq_false c24
                          clear c24
                          have H' := Aside0.mk H
                          clear H
                          go_wp2
                          repeat (go_quiet (fail); try go_wp2)
                          (try simp only [← hl8_1, ← hl8_2])
                          go_roundg k2
                          case measure => have := HK1.out; have := HK2.out; omega
                          case rel => exact ⟨(x8_2), (x9_2), (wrap64 (x10_1 + 1)), (by first | rfl | (simp; done) | (simp [*]; done)), H', ⟨by have := HK1.out; have := HK2.out; omega⟩, ⟨by (try simp only [hl8_1]); (try simp only [hl8_2]); (with_reducible repeat (first | apply Kd.R_alloc | apply Kd.R_drewN | apply Kd.R_drew)); exact HO_7.out⟩, ⟨by (try simp only [hl8_1]); (try simp only [hl8_2]); (with_reducible repeat (first | apply Kd.R_alloc | apply Kd.R_drewN | apply Kd.R_drew)); exact HO_8.out⟩, ⟨by (try simp only [hl8_1]); (try simp only [hl8_2]); (with_reducible repeat (first | apply Kd.R_alloc | apply Kd.R_drewN | apply Kd.R_drew)); exact HO_9.out⟩, ⟨by repeat (first | (with_reducible first | exact HB.out | apply below_alloc | apply pw_below_drewN | apply below_drew1) | exact HB.out)⟩⟩
                  · rw [if_neg c22] at H
                    have c22b0 : decide (x10_1 < (x9_1.length : Int)) = false := decide_eq_false c22
                    clear c22
                    obtain rfl := Option.some.inj H
                    obtain ⟨Ao83, co83, eo83⟩ := Kd.R_slice HO_9.out
                    subst eo83
                    go_wp2
                    repeat (go_quiet (fail); try go_wp2)
                    go_ret
                    exact ⟨by first | rfl | (simp [errW_none, errW_some] <;> rfl) | (simp [*, errW_none, errW_some] <;> rfl), by repeat (first | (with_reducible first | exact HB.out | apply below_alloc | apply pw_below_drewN | apply below_drew1) | exact HB.out)⟩
            · rw [if_neg c12] at H
              exact absurd H (by simp)
          · rw [if_neg c11] at H
            exact absurd H (by simp)
        · rw [if_neg c10] at H
          exact absurd H (by simp)
      · rw [if_neg c9] at H
        exact absurd H (by simp)
    · rw [if_neg c8] at H
      exact absurd H (by simp)

end Go.Proofs.Ytdinbpfklikghaa.PFnRegionConnected
