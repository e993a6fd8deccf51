/- Functions of the program as plain Lean functions, and what a call of each comes to. No conditions. -/
import Derived.Test.YtncmneliinbjdaaPRux0
import Derived.Test.YtncmneliinbjdaaPRux15
namespace Go.Proofs.Ytncmneliinbjdaa.PRu
open Go.RowKit Go.Proofs.YtncmneliinbjdaaW.PrintWords Go.Proofs.YtncmneliinbjdaaW.PrintLast Go.Proofs.YtncmneliinbjdaaW.PrintMore
attribute [local go_sem] max2_int min2_int max_two min_two max_three min_three max_four min_four   -- for this text's walks alone
set_option linter.unusedVariables false
set_option linter.unusedSimpArgs false

/-! ### laws_heldRuleS: function 33 -/
def laws_heldRuleS.l0 : Nat → List (S61) → Int → Int → Option (Int)
  | 0, _, _, _ => none
  | k + 1, x0, x1, x5 => if x5 < (x0.length : Int) then (if 0 ≤ x5 then (if ((rd_T61 x0 x5).f0) = x1 then ((laws_heldIntS.f k ((rd_T61 x0 x5).f1) (wrap64 (x1 + 1))).bind fun t162 => (if t162 < 0 then (some (-1)) else (if ((rd_T61 x0 x5).f2) = t162 then (laws_heldRuleS.l0 k x0 (wrap64 (t162 + 1)) (wrap64 (x5 + 1))) else (some (-1))))) else (some (-1))) else (none)) else (some x1)
def laws_heldRuleS.f (k : Nat) (l0 : List (S61)) (a1 : Int) : Option (Int) := laws_heldRuleS.l0 k l0 a1 0
theorem laws_heldRuleS.mono_l : ∀ k, (∀ y0 y1 y2, LeO (laws_heldRuleS.l0 k y0 y1 y2) (laws_heldRuleS.l0 (k + 1) y0 y1 y2))
  | 0 => fun _ _ _ r h => by simp [laws_heldRuleS.l0] at h
  | k + 1 => by
    have ih0 := laws_heldRuleS.mono_l k
    · intro y0 y1 y2
      unfold laws_heldRuleS.l0
      repeat' first
      | (with_reducible exact ih0 _ _ _)
      | (with_reducible exact laws_heldIntS.mono _ _ _)
      | (with_reducible exact LeO.refl _)
      | (with_reducible exact LeO.none _)
      | (with_reducible refine LeO.ite ?_ ?_)
      | (with_reducible refine LeO.bind ?_ (fun _ => ?_))
      | exact ih0 _ _ _
      | exact laws_heldIntS.mono _ _ _
      | exact LeO.none _
      | refine LeO.ite ?_ ?_
      | refine LeO.bind ?_ (fun _ => ?_)
theorem laws_heldRuleS.mono : ∀ a0 a1 k, LeO (laws_heldRuleS.f k a0 a1) (laws_heldRuleS.f (k + 1) a0 a1) := by
  intro a0 a1 k
  have ih0 := laws_heldRuleS.mono_l k
  unfold laws_heldRuleS.f
  repeat' first
      | (with_reducible exact ih0 _ _ _)
      | (with_reducible exact laws_heldIntS.mono _ _ _)
      | (with_reducible exact LeO.refl _)
      | (with_reducible exact LeO.none _)
      | (with_reducible refine LeO.ite ?_ ?_)
      | (with_reducible refine LeO.bind ?_ (fun _ => ?_))
      | exact ih0 _ _ _
      | exact laws_heldIntS.mono _ _ _
      | exact LeO.none _
      | refine LeO.ite ?_ ?_
      | refine LeO.bind ?_ (fun _ => ?_)
set_option maxHeartbeats 8000000 in
set_option maxRecDepth 100000 in
theorem laws_heldRuleS.calls (k : Nat) (A0 : Option Addr) (c0 : Nat) (l0 : List (S61)) (a1 : Int) (r : Int) (w : World) (hr0 : Kd.C k61 w A0 l0.length l0) (hc0 : l0.length ≤ c0) (h : laws_heldRuleS.f k l0 a1 = some r) :
    Calls Try.prog 33 #[.slice A0 l0.length c0, .int .i64 a1] w fun e w' => e = .returned (.int .i64 r) ∧ Drawn0 w w' := by
  have HR0 := Aside0.mk hr0
  have HC0 := Aside0.mk hc0
  clear hr0 hc0
  have H : (laws_heldRuleS.l0 k l0 a1 0) = some r := h
  clear h
  have H' := Aside0.mk H
  clear H
  go_enter Try.func33, Try.ntmps33
  go_wp2
  go_loopg [1, 5] k (fun kq v1 v5 w' => ∃ (x1_1 : Int) (x5_1 : Int), v1 = .int .i64 x1_1 ∧ v5 = .int .i64 x5_1 ∧ Aside0 (laws_heldRuleS.l0 kq l0 x1_1 x5_1 = some r) ∧ Aside0 (kq ≤ k) ∧ Drawn0 w w')
  case atStart => exact ⟨(a1), (0), (by first | rfl | (simp; done) | (simp [*]; done)), (by first | rfl | (simp; done) | (simp [*]; done)), H', ⟨Nat.le_refl _⟩, by repeat (first | exact Drawn0.refl _ | apply Drawn0.step)⟩
  case round =>
    clear H'
    try clear p2
    obtain ⟨x1_1, x5_1, rfl, rfl, HA, HK1, ⟨m1, rfl⟩⟩ := hrel
    cases gk with
    | zero => exact absurd HA.out (by simp [laws_heldRuleS.l0])
    | succ k1 =>
      have H := HA.out
      clear HA
      simp only [laws_heldRuleS.l0] at H
      by_cases c3 : x5_1 < (l0.length : Int)
      · rw [if_pos c3] at H
        have c3b0 : decide (x5_1 < (l0.length : Int)) = true := decide_eq_true c3
        clear c3
        by_cases c4 : 0 ≤ x5_1
        · rw [if_pos c4] at H
          have c4b0 : decide (0 ≤ x5_1) = true := decide_eq_true c4
          clear c4
          by_cases c5 : ((rd_T61 l0 x5_1).f0) = x1_1
          · rw [if_pos c5] at H
            have c5b0 : (((rd_T61 l0 x5_1).f0) == x1_1) = true := beq_iff_eq.mpr c5
            have c5b1 : (((rd_T61 l0 x5_1).f0) != x1_1) = false := bne_eq_false_iff_eq.mpr c5
            clear c5
            replace H := Option.bind_eq_some_iff.mp H
            obtain ⟨t162, A60, H⟩ := H
            replace H : (if t162 < 0 then (some (-1)) else (if ((rd_T61 l0 x5_1).f2) = t162 then (laws_heldRuleS.l0 k1 l0 (wrap64 (t162 + 1)) (wrap64 (x5_1 + 1))) else (some (-1)))) = some r := H
            have A6 := Aside0.mk A60
            clear A60
            by_cases c7 : t162 < 0
            · rw [if_pos c7] at H
              have c7b0 : decide (t162 < 0) = true := decide_eq_true c7
              clear c7
              obtain rfl := Option.some.inj H
              have p160 : 0 ≤ (x5_1 : Int) := of_decide_eq_true (by first | (with_reducible assumption) | assumption)
              have q160 : x5_1 < (l0.length : Int) := of_decide_eq_true (by first | (with_reducible assumption) | assumption)
              obtain ⟨ad160, A160_1, c160_1, e160, hx160_0, hx160_1, hx160_2, hl160_1, hi160_1⟩ := at_T61 HR0.out x5_1 p160 q160
              cases e160
              have HR160_1 := Aside0.mk hi160_1
              have HC160_1 := Aside0.mk hl160_1
              clear hi160_1 hl160_1
              replace p160 := eq_true p160
              replace q160 := eq_true q160
              have p161 : 0 ≤ (x5_1 : Int) := of_decide_eq_true (by first | (with_reducible assumption) | assumption)
              have q161 : x5_1 < (l0.length : Int) := of_decide_eq_true (by first | (with_reducible assumption) | assumption)
              obtain ⟨ad161, A161_1, c161_1, e161, hx161_0, hx161_1, hx161_2, hl161_1, hi161_1⟩ := at_T61 HR0.out x5_1 p161 q161
              obtain rfl : ad160 = ad161 := (by injection e161)
              have HR161_1 := Aside0.mk hi161_1
              have HC161_1 := Aside0.mk hl161_1
              clear hi161_1 hl161_1
              replace p161 := eq_true p161
              replace q161 := eq_true q161
              have ea_ := Option.some.inj (hx160_1.symm.trans hx161_1)
              injection ea_ with ea_ en_ ec_
              subst ea_
              subst ec_
              clear en_
              go_wp2_with (first | ((with_reducible refine gate_callee (f := 24) rfl ?_); refine goesL_ (some 27) rfl rfl Try.func24 (by kernel_rfl) rfl #[.slice A160_1 ((rd_T61 l0 x5_1).f1).length c160_1, .int .i64 (wrap64 (x1_1 + 1))] rfl (by (try simp only [List.map_toArray, List.map_cons, List.map_nil]); first | done | rfl | (simp only [List.length_drop, List.length_take]; rfl)) ?_; (with_reducible refine (laws_heldIntS.calls k1 _ _ ((rd_T61 l0 x5_1).f1) (wrap64 (x1_1 + 1)) t162 _ ?side1 ?side2 A6.out).mono ?_); (case side1 => repeat (first | exact HR161_1.out | (with_reducible refine Kd.C_alloc ?_ _) | (with_reducible refine Kd.C_drewN ?_ _) | (with_reducible refine Kd.C_drew ?_))); (case side2 => exact HC161_1.out); rintro e w' ⟨rfl, ⟨nd, rfl⟩⟩; refine ⟨_, rfl, ?_⟩))
              go_ret
              exact ⟨by first | rfl | (simp; done) | (simp [*]; done), by repeat (first | exact Drawn0.refl _ | apply Drawn0.step)⟩
            · rw [if_neg c7] at H
              have c7b0 : decide (t162 < 0) = false := decide_eq_false c7
              clear c7
              by_cases c8 : ((rd_T61 l0 x5_1).f2) = t162
              · rw [if_pos c8] at H
                have c8b0 : (((rd_T61 l0 x5_1).f2) == t162) = true := beq_iff_eq.mpr c8
                have c8b1 : (((rd_T61 l0 x5_1).f2) != t162) = false := bne_eq_false_iff_eq.mpr c8
                clear c8
                have H' := Aside0.mk H
                clear H
                have p160 : 0 ≤ (x5_1 : Int) := of_decide_eq_true (by first | (with_reducible assumption) | assumption)
                have q160 : x5_1 < (l0.length : Int) := of_decide_eq_true (by first | (with_reducible assumption) | assumption)
                obtain ⟨ad160, A160_1, c160_1, e160, hx160_0, hx160_1, hx160_2, hl160_1, hi160_1⟩ := at_T61 HR0.out x5_1 p160 q160
                cases e160
                have HR160_1 := Aside0.mk hi160_1
                have HC160_1 := Aside0.mk hl160_1
                clear hi160_1 hl160_1
                replace p160 := eq_true p160
                replace q160 := eq_true q160
                have p161 : 0 ≤ (x5_1 : Int) := of_decide_eq_true (by first | (with_reducible assumption) | assumption)
                have q161 : x5_1 < (l0.length : Int) := of_decide_eq_true (by first | (with_reducible assumption) | assumption)
                obtain ⟨ad161, A161_1, c161_1, e161, hx161_0, hx161_1, hx161_2, hl161_1, hi161_1⟩ := at_T61 HR0.out x5_1 p161 q161
                obtain rfl : ad160 = ad161 := (by injection e161)
                have HR161_1 := Aside0.mk hi161_1
                have HC161_1 := Aside0.mk hl161_1
                clear hi161_1 hl161_1
                replace p161 := eq_true p161
                replace q161 := eq_true q161
                have ea_ := Option.some.inj (hx160_1.symm.trans hx161_1)
                injection ea_ with ea_ en_ ec_
                subst ea_
                subst ec_
                clear en_
                go_wp2_with (first | ((with_reducible refine gate_callee (f := 24) rfl ?_); refine goesL_ (some 27) rfl rfl Try.func24 (by kernel_rfl) rfl #[.slice A160_1 ((rd_T61 l0 x5_1).f1).length c160_1, .int .i64 (wrap64 (x1_1 + 1))] rfl (by (try simp only [List.map_toArray, List.map_cons, List.map_nil]); first | done | rfl | (simp only [List.length_drop, List.length_take]; rfl)) ?_; (with_reducible refine (laws_heldIntS.calls k1 _ _ ((rd_T61 l0 x5_1).f1) (wrap64 (x1_1 + 1)) t162 _ ?side1 ?side2 A6.out).mono ?_); (case side1 => repeat (first | exact HR161_1.out | (with_reducible refine Kd.C_alloc ?_ _) | (with_reducible refine Kd.C_drewN ?_ _) | (with_reducible refine Kd.C_drew ?_))); (case side2 => exact HC161_1.out); rintro e w' ⟨rfl, ⟨nd, rfl⟩⟩; refine ⟨_, rfl, ?_⟩; have p163 : 0 ≤ (x5_1 : Int) := of_decide_eq_true (by first | (with_reducible assumption) | assumption); have q163 : x5_1 < (l0.length : Int) := of_decide_eq_true (by first | (with_reducible assumption) | assumption); obtain ⟨ad163, A163_1, c163_1, e163, hx163_0, hx163_1, hx163_2, hl163_1, hi163_1⟩ := at_T61 HR0.out x5_1 p163 q163; obtain rfl : ad160 = ad163 := (by injection e163); have HR163_1 := Aside0.mk hi163_1; have HC163_1 := Aside0.mk hl163_1; clear hi163_1 hl163_1; replace p163 := eq_true p163; replace q163 := eq_true q163; have ea_ := Option.some.inj (hx160_1.symm.trans hx163_1); injection ea_ with ea_ en_ ec_; subst ea_; subst ec_; clear en_))
                go_roundg k1
                case measure => have := HK1.out; omega
                case rel => exact ⟨(wrap64 (t162 + 1)), (wrap64 (x5_1 + 1)), (by first | rfl | (simp; done) | (simp [*]; done)), (by first | rfl | (simp; done) | (simp [*]; done)), H', ⟨by have := HK1.out; omega⟩, by repeat (first | exact Drawn0.refl _ | apply Drawn0.step)⟩
              · rw [if_neg c8] at H
                have c8b0 : (((rd_T61 l0 x5_1).f2) == t162) = false := beq_eq_false_iff_ne.mpr c8
                have c8b1 : (((rd_T61 l0 x5_1).f2) != t162) = true := bne_iff_ne.mpr c8
                obtain rfl := Option.some.inj H
                have p160 : 0 ≤ (x5_1 : Int) := of_decide_eq_true (by first | (with_reducible assumption) | assumption)
                have q160 : x5_1 < (l0.length : Int) := of_decide_eq_true (by first | (with_reducible assumption) | assumption)
                obtain ⟨ad160, A160_1, c160_1, e160, hx160_0, hx160_1, hx160_2, hl160_1, hi160_1⟩ := at_T61 HR0.out x5_1 p160 q160
                cases e160
                have HR160_1 := Aside0.mk hi160_1
                have HC160_1 := Aside0.mk hl160_1
                clear hi160_1 hl160_1
                replace p160 := eq_true p160
                replace q160 := eq_true q160
                have p161 : 0 ≤ (x5_1 : Int) := of_decide_eq_true (by first | (with_reducible assumption) | assumption)
                have q161 : x5_1 < (l0.length : Int) := of_decide_eq_true (by first | (with_reducible assumption) | assumption)
                obtain ⟨ad161, A161_1, c161_1, e161, hx161_0, hx161_1, hx161_2, hl161_1, hi161_1⟩ := at_T61 HR0.out x5_1 p161 q161
                obtain rfl : ad160 = ad161 := (by injection e161)
                have HR161_1 := Aside0.mk hi161_1
                have HC161_1 := Aside0.mk hl161_1
                clear hi161_1 hl161_1
                replace p161 := eq_true p161
                replace q161 := eq_true q161
                have ea_ := Option.some.inj (hx160_1.symm.trans hx161_1)
                injection ea_ with ea_ en_ ec_
                subst ea_
                subst ec_
                clear en_
                go_wp2_with (first | ((with_reducible refine gate_callee (f := 24) rfl ?_); refine goesL_ (some 27) rfl rfl Try.func24 (by kernel_rfl) rfl #[.slice A160_1 ((rd_T61 l0 x5_1).f1).length c160_1, .int .i64 (wrap64 (x1_1 + 1))] rfl (by (try simp only [List.map_toArray, List.map_cons, List.map_nil]); first | done | rfl | (simp only [List.length_drop, List.length_take]; rfl)) ?_; (with_reducible refine (laws_heldIntS.calls k1 _ _ ((rd_T61 l0 x5_1).f1) (wrap64 (x1_1 + 1)) t162 _ ?side1 ?side2 A6.out).mono ?_); (case side1 => repeat (first | exact HR161_1.out | (with_reducible refine Kd.C_alloc ?_ _) | (with_reducible refine Kd.C_drewN ?_ _) | (with_reducible refine Kd.C_drew ?_))); (case side2 => exact HC161_1.out); rintro e w' ⟨rfl, ⟨nd, rfl⟩⟩; refine ⟨_, rfl, ?_⟩; have p163 : 0 ≤ (x5_1 : Int) := of_decide_eq_true (by first | (with_reducible assumption) | assumption); have q163 : x5_1 < (l0.length : Int) := of_decide_eq_true (by first | (with_reducible assumption) | assumption); obtain ⟨ad163, A163_1, c163_1, e163, hx163_0, hx163_1, hx163_2, hl163_1, hi163_1⟩ := at_T61 HR0.out x5_1 p163 q163; obtain rfl : ad160 = ad163 := (by injection e163); have HR163_1 := Aside0.mk hi163_1; have HC163_1 := Aside0.mk hl163_1; clear hi163_1 hl163_1; replace p163 := eq_true p163; replace q163 := eq_true q163; have ea_ := Option.some.inj (hx160_1.symm.trans hx163_1); injection ea_ with ea_ en_ ec_; subst ea_; subst ec_; clear en_))
                go_ret
                exact ⟨by first | rfl | (simp; done) | (simp [*]; done), by repeat (first | exact Drawn0.refl _ | apply Drawn0.step)⟩
          · rw [if_neg c5] at H
            have c5b0 : (((rd_T61 l0 x5_1).f0) == x1_1) = false := beq_eq_false_iff_ne.mpr c5
            have c5b1 : (((rd_T61 l0 x5_1).f0) != x1_1) = true := bne_iff_ne.mpr c5
            obtain rfl := Option.some.inj H
            have p160 : 0 ≤ (x5_1 : Int) := of_decide_eq_true (by first | (with_reducible assumption) | assumption)
            have q160 : x5_1 < (l0.length : Int) := of_decide_eq_true (by first | (with_reducible assumption) | assumption)
            obtain ⟨ad160, A160_1, c160_1, e160, hx160_0, hx160_1, hx160_2, hl160_1, hi160_1⟩ := at_T61 HR0.out x5_1 p160 q160
            cases e160
            have HR160_1 := Aside0.mk hi160_1
            have HC160_1 := Aside0.mk hl160_1
            clear hi160_1 hl160_1
            replace p160 := eq_true p160
            replace q160 := eq_true q160
            go_wp2
            go_ret
            exact ⟨by first | rfl | (simp; done) | (simp [*]; done), by repeat (first | exact Drawn0.refl _ | apply Drawn0.step)⟩
        · rw [if_neg c4] at H
          exact absurd H (by simp)
      · rw [if_neg c3] at H
        have c3b0 : decide (x5_1 < (l0.length : Int)) = false := decide_eq_false c3
        clear c3
        obtain rfl := Option.some.inj H
        go_wp2
        go_ret
        exact ⟨by first | rfl | (simp; done) | (simp [*]; done), by repeat (first | exact Drawn0.refl _ | apply Drawn0.step)⟩

end Go.Proofs.Ytncmneliinbjdaa.PRu
