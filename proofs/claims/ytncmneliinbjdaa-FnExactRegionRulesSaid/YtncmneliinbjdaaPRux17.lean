/- Functions of the program as plain Lean functions, and what a call of each comes to. No conditions. -/
import Derived.Test.YtncmneliinbjdaaPRux0
import Derived.Test.YtncmneliinbjdaaPRux1
import Derived.Test.YtncmneliinbjdaaPRux2
import Derived.Test.YtncmneliinbjdaaPRux6
import Derived.Test.YtncmneliinbjdaaPRux7
import Derived.Test.YtncmneliinbjdaaPRux11
import Derived.Test.YtncmneliinbjdaaPRux13
import Derived.Test.YtncmneliinbjdaaPRux14
import Derived.Test.YtncmneliinbjdaaPRux16
namespace Go.Proofs.Ytncmneliinbjdaa.PRu
open Go.RowKit Go.Proofs.YtncmneliinbjdaaW.PrintWords Go.Proofs.YtncmneliinbjdaaW.PrintLast Go.Proofs.YtncmneliinbjdaaW.PrintMore
attribute [local go_sem] max2_int min2_int max_two min_two max_three min_three max_four min_four   -- for this text's walks alone
set_option linter.unusedVariables false
set_option linter.unusedSimpArgs false

/-! ### laws_FnExactRegionRules: function 6 -/
theorem held_S (k : Nat) (A0 : Option Addr) (n c0 : Nat) (l0 : List S61) (a1 : Int) (r : Int) (w : World) (hS : ∃ (base : Nat) (ok : Nat → Prop), Kd.S k61 61 w base ok (.slice A0 n c0) l0) (h : laws_heldRuleS.f k l0 a1 = some r) :
    Calls Try.prog 33 #[.slice A0 n c0, .int .i64 a1] w fun e w' => e = .returned (.int .i64 r) ∧ Drawn0 w w' := by
  obtain ⟨_, _, hS⟩ := hS
  obtain ⟨e, h2, h3⟩ := Kd.S_reads' hS
  subst e
  exact laws_heldRuleS.calls k _ _ l0 a1 r w h3 h2 h
mutual
def laws_FnExactRegionRules.j0 : Nat → List Int → Int → List (S61) → Bool → List Int → List (S61) → Bool → Bool → Option (Bool)
  | 0, _, _, _, _, _, _, _, _ => none
  | k + 1, x0, x1, x5, x6, x7, x8, x9, x41 => if x41 = true then (some false) else ((laws_toIntS.f k x0).bind fun t179 => ((laws_eqIntS.f k x7 t179).bind fun t182 => (if t182 = true then ((laws_markIntS.f k x7 1).bind fun bt183 => (if bt183.1 < 0 then (laws_FnExactRegionRules.j1 k x0 x1 x5 x6 x8 true) else ((laws_eqRuleS.f k x8 x5).bind fun t185 => (if t185 = true then (laws_FnExactRegionRules.j1 k x0 x1 x5 x6 x8 (x9 != x6)) else (laws_FnExactRegionRules.j1 k x0 x1 x5 x6 x8 true))))) else (some false))))
def laws_FnExactRegionRules.j1 : Nat → List Int → Int → List (S61) → Bool → List (S61) → Bool → Option (Bool)
  | 0, _, _, _, _, _, _ => none
  | k + 1, x0, x1, x5, x6, x8, x62 => if x62 = true then (some false) else ((laws_markRuleS.f k x8 1).bind fun bt186 => ((laws_heldRuleS.f k bt186.2 1).bind fun t187 => (if t187 < 0 then (some false) else (if t187 = bt186.1 then ((laws_toIntS.f k x0).bind fun t188 => ((impl_RegionRules.f k t188 x1).bind fun bt191 => ((laws_eqRuleS.f k bt191.1 x5).bind fun t195 => (if t195 = true then (laws_FnExactRegionRules.j2 k bt186.2 bt186.1 (bt191.2 != x6)) else (laws_FnExactRegionRules.j2 k bt186.2 bt186.1 true))))) else (some false)))))
def laws_FnExactRegionRules.j2 : Nat → List (S61) → Int → Bool → Option (Bool)
  | 0, _, _, _ => none
  | k + 1, x8, x11, x89 => if x89 = true then (some false) else ((laws_heldRuleS.f k x8 1).bind fun t196 => (if t196 < 0 then (some false) else (if t196 = x11 then (some true) else (some false))))
end
def laws_FnExactRegionRules.f (k : Nat) (l0 : List Int) (a1 : Int) : Option (Bool) := if (l0.length : Int) > 1048576 then (some true) else ((laws_toIntS.f k l0).bind fun t164 => ((spec_RegionRules.f k t164 a1).bind fun bt167 => ((laws_toIntS.f k l0).bind fun t171 => ((impl_RegionRules.f k t171 a1).bind fun bt174 => ((laws_eqRuleS.f k bt174.1 bt167.1).bind fun t178 => (if t178 = true then (laws_FnExactRegionRules.j0 k l0 a1 bt167.1 bt167.2 t171 bt174.1 bt174.2 (bt174.2 != bt167.2)) else (laws_FnExactRegionRules.j0 k l0 a1 bt167.1 bt167.2 t171 bt174.1 bt174.2 true)))))))
theorem laws_FnExactRegionRules.mono_l : ∀ k, (∀ y0 y1 y2 y3 y4 y5 y6 y7, LeO (laws_FnExactRegionRules.j0 k y0 y1 y2 y3 y4 y5 y6 y7) (laws_FnExactRegionRules.j0 (k + 1) y0 y1 y2 y3 y4 y5 y6 y7)) ∧ (∀ y0 y1 y2 y3 y4 y5, LeO (laws_FnExactRegionRules.j1 k y0 y1 y2 y3 y4 y5) (laws_FnExactRegionRules.j1 (k + 1) y0 y1 y2 y3 y4 y5)) ∧ (∀ y0 y1 y2, LeO (laws_FnExactRegionRules.j2 k y0 y1 y2) (laws_FnExactRegionRules.j2 (k + 1) y0 y1 y2))
  | 0 => ⟨fun _ _ _ _ _ _ _ _ r h => by simp [laws_FnExactRegionRules.j0] at h, fun _ _ _ _ _ _ r h => by simp [laws_FnExactRegionRules.j1] at h, fun _ _ _ r h => by simp [laws_FnExactRegionRules.j2] at h⟩
  | k + 1 => by
    obtain ⟨ih0, ih1, ih2⟩ := laws_FnExactRegionRules.mono_l k
    refine ⟨?_, ?_, ?_⟩
    · intro y0 y1 y2 y3 y4 y5 y6 y7
      unfold laws_FnExactRegionRules.j0
      repeat' first
      | (with_reducible exact ih0 _ _ _ _ _ _ _ _)
      | (with_reducible exact ih1 _ _ _ _ _ _)
      | (with_reducible exact ih2 _ _ _)
      | (with_reducible exact impl_RegionRules.mono _ _ _)
      | (with_reducible exact laws_eqIntS.mono _ _ _)
      | (with_reducible exact laws_eqRuleS.mono _ _ _)
      | (with_reducible exact laws_heldRuleS.mono _ _ _)
      | (with_reducible exact laws_markIntS.mono _ _ _)
      | (with_reducible exact laws_markRuleS.mono _ _ _)
      | (with_reducible exact laws_toIntS.mono _ _)
      | (with_reducible exact spec_RegionRules.mono _ _ _)
      | (with_reducible exact LeO.refl _)
      | (with_reducible exact LeO.none _)
      | (with_reducible refine LeO.ite ?_ ?_)
      | (with_reducible refine LeO.bind ?_ (fun _ => ?_))
      | exact ih0 _ _ _ _ _ _ _ _
      | exact ih1 _ _ _ _ _ _
      | exact ih2 _ _ _
      | exact impl_RegionRules.mono _ _ _
      | exact laws_eqIntS.mono _ _ _
      | exact laws_eqRuleS.mono _ _ _
      | exact laws_heldRuleS.mono _ _ _
      | exact laws_markIntS.mono _ _ _
      | exact laws_markRuleS.mono _ _ _
      | exact laws_toIntS.mono _ _
      | exact spec_RegionRules.mono _ _ _
      | exact LeO.none _
      | refine LeO.ite ?_ ?_
      | refine LeO.bind ?_ (fun _ => ?_)
    · intro y0 y1 y2 y3 y4 y5
      unfold laws_FnExactRegionRules.j1
      repeat' first
      | (with_reducible exact ih0 _ _ _ _ _ _ _ _)
      | (with_reducible exact ih1 _ _ _ _ _ _)
      | (with_reducible exact ih2 _ _ _)
      | (with_reducible exact impl_RegionRules.mono _ _ _)
      | (with_reducible exact laws_eqIntS.mono _ _ _)
      | (with_reducible exact laws_eqRuleS.mono _ _ _)
      | (with_reducible exact laws_heldRuleS.mono _ _ _)
      | (with_reducible exact laws_markIntS.mono _ _ _)
      | (with_reducible exact laws_markRuleS.mono _ _ _)
      | (with_reducible exact laws_toIntS.mono _ _)
      | (with_reducible exact spec_RegionRules.mono _ _ _)
      | (with_reducible exact LeO.refl _)
      | (with_reducible exact LeO.none _)
      | (with_reducible refine LeO.ite ?_ ?_)
      | (with_reducible refine LeO.bind ?_ (fun _ => ?_))
      | exact ih0 _ _ _ _ _ _ _ _
      | exact ih1 _ _ _ _ _ _
      | exact ih2 _ _ _
      | exact impl_RegionRules.mono _ _ _
      | exact laws_eqIntS.mono _ _ _
      | exact laws_eqRuleS.mono _ _ _
      | exact laws_heldRuleS.mono _ _ _
      | exact laws_markIntS.mono _ _ _
      | exact laws_markRuleS.mono _ _ _
      | exact laws_toIntS.mono _ _
      | exact spec_RegionRules.mono _ _ _
      | exact LeO.none _
      | refine LeO.ite ?_ ?_
      | refine LeO.bind ?_ (fun _ => ?_)
    · intro y0 y1 y2
      unfold laws_FnExactRegionRules.j2
      repeat' first
      | (with_reducible exact ih0 _ _ _ _ _ _ _ _)
      | (with_reducible exact ih1 _ _ _ _ _ _)
      | (with_reducible exact ih2 _ _ _)
      | (with_reducible exact impl_RegionRules.mono _ _ _)
      | (with_reducible exact laws_eqIntS.mono _ _ _)
      | (with_reducible exact laws_eqRuleS.mono _ _ _)
      | (with_reducible exact laws_heldRuleS.mono _ _ _)
      | (with_reducible exact laws_markIntS.mono _ _ _)
      | (with_reducible exact laws_markRuleS.mono _ _ _)
      | (with_reducible exact laws_toIntS.mono _ _)
      | (with_reducible exact spec_RegionRules.mono _ _ _)
      | (with_reducible exact LeO.refl _)
      | (with_reducible exact LeO.none _)
      | (with_reducible refine LeO.ite ?_ ?_)
      | (with_reducible refine LeO.bind ?_ (fun _ => ?_))
      | exact ih0 _ _ _ _ _ _ _ _
      | exact ih1 _ _ _ _ _ _
      | exact ih2 _ _ _
      | exact impl_RegionRules.mono _ _ _
      | exact laws_eqIntS.mono _ _ _
      | exact laws_eqRuleS.mono _ _ _
      | exact laws_heldRuleS.mono _ _ _
      | exact laws_markIntS.mono _ _ _
      | exact laws_markRuleS.mono _ _ _
      | exact laws_toIntS.mono _ _
      | exact spec_RegionRules.mono _ _ _
      | exact LeO.none _
      | refine LeO.ite ?_ ?_
      | refine LeO.bind ?_ (fun _ => ?_)
theorem laws_FnExactRegionRules.mono : ∀ a0 a1 k, LeO (laws_FnExactRegionRules.f k a0 a1) (laws_FnExactRegionRules.f (k + 1) a0 a1) := by
  intro a0 a1 k
  obtain ⟨ih0, ih1, ih2⟩ := laws_FnExactRegionRules.mono_l k
  unfold laws_FnExactRegionRules.f
  repeat' first
      | (with_reducible exact ih0 _ _ _ _ _ _ _ _)
      | (with_reducible exact ih1 _ _ _ _ _ _)
      | (with_reducible exact ih2 _ _ _)
      | (with_reducible exact impl_RegionRules.mono _ _ _)
      | (with_reducible exact laws_eqIntS.mono _ _ _)
      | (with_reducible exact laws_eqRuleS.mono _ _ _)
      | (with_reducible exact laws_heldRuleS.mono _ _ _)
      | (with_reducible exact laws_markIntS.mono _ _ _)
      | (with_reducible exact laws_markRuleS.mono _ _ _)
      | (with_reducible exact laws_toIntS.mono _ _)
      | (with_reducible exact spec_RegionRules.mono _ _ _)
      | (with_reducible exact LeO.refl _)
      | (with_reducible exact LeO.none _)
      | (with_reducible refine LeO.ite ?_ ?_)
      | (with_reducible refine LeO.bind ?_ (fun _ => ?_))
      | exact ih0 _ _ _ _ _ _ _ _
      | exact ih1 _ _ _ _ _ _
      | exact ih2 _ _ _
      | exact impl_RegionRules.mono _ _ _
      | exact laws_eqIntS.mono _ _ _
      | exact laws_eqRuleS.mono _ _ _
      | exact laws_heldRuleS.mono _ _ _
      | exact laws_markIntS.mono _ _ _
      | exact laws_markRuleS.mono _ _ _
      | exact laws_toIntS.mono _ _
      | exact spec_RegionRules.mono _ _ _
      | exact LeO.none _
      | refine LeO.ite ?_ ?_
      | refine LeO.bind ?_ (fun _ => ?_)
set_option maxHeartbeats 8000000 in
set_option maxRecDepth 100000 in
theorem laws_FnExactRegionRules.calls (k : Nat) (A0 : Option Addr) (c0 : Nat) (l0 : List Int) (a1 : Int) (r : Bool) (w : World) (hr0 : Kd.C (Kd.int .i64) w A0 l0.length l0) (hc0 : l0.length ≤ c0) (h : laws_FnExactRegionRules.f k l0 a1 = some r) :
    Calls Try.prog 6 #[.slice A0 l0.length c0, .int .i64 a1] w fun e w' => e = .returned (.bool r) ∧ Below w.heap.size w w' := by
  have HR0 := Aside0.mk hr0
  have HC0 := Aside0.mk hc0
  clear hr0 hc0
  have HB := Aside0.mk (Below.refl w.heap.size w)
  have H : (if (l0.length : Int) > 1048576 then (some true) else ((laws_toIntS.f k l0).bind fun t164 => ((spec_RegionRules.f k t164 a1).bind fun bt167 => ((laws_toIntS.f k l0).bind fun t171 => ((impl_RegionRules.f k t171 a1).bind fun bt174 => ((laws_eqRuleS.f k bt174.1 bt167.1).bind fun t178 => (if t178 = true then (laws_FnExactRegionRules.j0 k l0 a1 bt167.1 bt167.2 t171 bt174.1 bt174.2 (bt174.2 != bt167.2)) else (laws_FnExactRegionRules.j0 k l0 a1 bt167.1 bt167.2 t171 bt174.1 bt174.2 true)))))))) = some r := h
  clear h
  by_cases c3 : (l0.length : Int) > 1048576
  · rw [if_pos c3] at H
    have c3b0 : decide (1048576 < (l0.length : Int)) = true := decide_eq_true c3
    have c3b1 : decide (1048576 < l0.length) = true := decide_eq_true (by omega)
    clear c3
    obtain rfl := Option.some.inj H
    go_enter Try.func6, Try.ntmps6
    go_wp2
    go_ret
    exact ⟨by first | rfl | (simp [errW_none, errW_some] <;> rfl) | (simp [*, errW_none, errW_some] <;> rfl), by repeat (first | (with_reducible first | exact HB.out | apply below_alloc | apply pw_below_drewN | apply below_drew1) | exact HB.out)⟩
  · rw [if_neg c3] at H
    have c3b0 : decide (1048576 < (l0.length : Int)) = false := decide_eq_false c3
    have c3b1 : decide (1048576 < l0.length) = false := decide_eq_false (by omega)
    clear c3
    replace H := Option.bind_eq_some_iff.mp H
    obtain ⟨t164, A40, H⟩ := H
    replace H : ((spec_RegionRules.f k t164 a1).bind fun bt167 => ((laws_toIntS.f k l0).bind fun t171 => ((impl_RegionRules.f k t171 a1).bind fun bt174 => ((laws_eqRuleS.f k bt174.1 bt167.1).bind fun t178 => (if t178 = true then (laws_FnExactRegionRules.j0 k l0 a1 bt167.1 bt167.2 t171 bt174.1 bt174.2 (bt174.2 != bt167.2)) else (laws_FnExactRegionRules.j0 k l0 a1 bt167.1 bt167.2 t171 bt174.1 bt174.2 true)))))) = some r := H
    have A4 := Aside0.mk A40
    clear A40
    replace H := Option.bind_eq_some_iff.mp H
    obtain ⟨⟨t167, t168⟩, A50, H⟩ := H
    replace H : ((laws_toIntS.f k l0).bind fun t171 => ((impl_RegionRules.f k t171 a1).bind fun bt174 => ((laws_eqRuleS.f k bt174.1 t167).bind fun t178 => (if t178 = true then (laws_FnExactRegionRules.j0 k l0 a1 t167 t168 t171 bt174.1 bt174.2 (bt174.2 != t168)) else (laws_FnExactRegionRules.j0 k l0 a1 t167 t168 t171 bt174.1 bt174.2 true))))) = some r := H
    have A5 := Aside0.mk A50
    clear A50
    replace H := Option.bind_eq_some_iff.mp H
    obtain ⟨t171, A60, H⟩ := H
    replace H : ((impl_RegionRules.f k t171 a1).bind fun bt174 => ((laws_eqRuleS.f k bt174.1 t167).bind fun t178 => (if t178 = true then (laws_FnExactRegionRules.j0 k l0 a1 t167 t168 t171 bt174.1 bt174.2 (bt174.2 != t168)) else (laws_FnExactRegionRules.j0 k l0 a1 t167 t168 t171 bt174.1 bt174.2 true)))) = some r := H
    have A6 := Aside0.mk A60
    clear A60
    replace H := Option.bind_eq_some_iff.mp H
    obtain ⟨⟨t174, t175⟩, A70, H⟩ := H
    replace H : ((laws_eqRuleS.f k t174 t167).bind fun t178 => (if t178 = true then (laws_FnExactRegionRules.j0 k l0 a1 t167 t168 t171 t174 t175 (t175 != t168)) else (laws_FnExactRegionRules.j0 k l0 a1 t167 t168 t171 t174 t175 true))) = some r := H
    have A7 := Aside0.mk A70
    clear A70
    have HC8 := Aside0.mk H
    clear H
    go_enter Try.func6, Try.ntmps6
    go_upto_region 6 with (first | ((with_reducible refine gate_callee (f := 29) rfl ?_); refine goesL_ (some 20) rfl rfl Try.func29 (by kernel_rfl) rfl #[.slice A0 l0.length c0] rfl (by (try simp only [List.map_toArray, List.map_cons, List.map_nil]); first | done | rfl | (simp only [List.length_drop, List.length_take]; rfl)) ?_; (with_reducible refine (laws_toIntS.calls k _ _ l0 t164 _ ?side1 ?side2 A4.out).mono ?_); (case side1 => repeat (first | exact HR0.out | (with_reducible refine Kd.C_alloc ?_ _) | (with_reducible refine Kd.C_drewN ?_ _) | (with_reducible refine Kd.C_drew ?_))); (case side2 => exact HC0.out); rintro e w9 ⟨v165, rfl, ho0, hb⟩; refine ⟨_, rfl, ?_⟩; have n0_ := Aside0.mk (Kd.R_lower ho0 (below_size (by repeat (first | (with_reducible first | exact HB.out | apply below_alloc | apply pw_below_drewN | apply below_drew1) | exact HB.out)))); have n1_ := Aside0.mk (below_step (by repeat (first | (with_reducible first | exact HB.out | apply below_alloc | apply pw_below_drewN | apply below_drew1) | exact HB.out)) hb); clear HB; have HO166 := n0_; have HB := n1_; clear n0_ n1_; (try clear hb); (try clear hb2); (try clear hk); (try clear hi); (try clear ho0); obtain ⟨Ao10, co10, eo10⟩ := Kd.R_slice HO166.out; subst eo10) | ((with_reducible refine gate_callee (f := 28) rfl ?_); refine goesL_ (some 22) rfl rfl Try.func28 (by kernel_rfl) rfl #[.slice Ao10 t164.length co10, .int .i64 a1] rfl (by (try simp only [List.map_toArray, List.map_cons, List.map_nil]); first | done | rfl | (simp only [List.length_drop, List.length_take]; rfl)) ?_; (with_reducible refine (spec_RegionRules.calls k _ _ t164 a1 t167 t168 _ ?side1 ?side2 A5.out).mono ?_); (case side1 => repeat (first | exact (Kd.R_reads' HO166.out).2.2 | (with_reducible refine Kd.C_alloc ?_ _) | (with_reducible refine Kd.C_drewN ?_ _) | (with_reducible refine Kd.C_drew ?_))); (case side2 => exact (Kd.R_reads' HO166.out).2.1); rintro e w11 ⟨v169, rfl, ho0, hb⟩; refine ⟨_, rfl, ?_⟩; obtain ⟨B_, HZ0⟩ : ∃ B_ : Nat, Aside0 (B_ = w11.heap.size) := ⟨_, ⟨rfl⟩⟩; have n0_ := Aside0.mk (Kd.R_below (by (with_reducible repeat (first | apply Kd.R_alloc | apply Kd.R_drewN | apply Kd.R_drew)); exact HO166.out) hb); have n1_ := Aside0.mk (Kd.S_lower (Kd.S_new' (Kd.S_mono (ok' := fun k_ => k_ < B_) (Kd.S_bound ho0) (fun k_ hk_ => by rw [HZ0.out]; exact hk_.2.2.1)) (Kd.R_lt (by (with_reducible repeat (first | apply Kd.R_alloc | apply Kd.R_drewN | apply Kd.R_drew)); exact HO166.out))) (below_size (by repeat (first | (with_reducible first | exact HB.out | apply below_alloc | apply pw_below_drewN | apply below_drew1) | exact HB.out)))); have n2_ := Aside0.mk (below_step (by repeat (first | (with_reducible first | exact HB.out | apply below_alloc | apply pw_below_drewN | apply below_drew1) | exact HB.out)) hb); clear HO166; clear HB; have HO166 := n0_; have HO170 := n1_; have HB := n2_; clear n0_ n1_ n2_; (try clear hb); (try clear hb2); (try clear hk); (try clear hi); (try clear ho0)) | ((with_reducible refine gate_callee (f := 29) rfl ?_); refine goesL_ (some 26) rfl rfl Try.func29 (by kernel_rfl) rfl #[.slice A0 l0.length c0] rfl (by (try simp only [List.map_toArray, List.map_cons, List.map_nil]); first | done | rfl | (simp only [List.length_drop, List.length_take]; rfl)) ?_; (with_reducible refine (laws_toIntS.calls k _ _ l0 t171 _ ?side1 ?side2 A6.out).mono ?_); (case side1 => repeat (first | exact (Kd.C_below HR0.out HB.out) | (with_reducible refine Kd.C_alloc ?_ _) | (with_reducible refine Kd.C_drewN ?_ _) | (with_reducible refine Kd.C_drew ?_))); (case side2 => exact HC0.out); rintro e w12 ⟨v172, rfl, ho0, hb⟩; refine ⟨_, rfl, ?_⟩; have HZ1 := Aside0.mk (show B_ ≤ w12.heap.size by rw [HZ0.out]; exact hb.size); have n0_ := Aside0.mk (Kd.R_elder' (by (with_reducible repeat (first | apply Kd.R_alloc | apply Kd.R_drewN | apply Kd.R_drew)); exact HO166.out) (Kd.R_base ho0) hb); have n1_ := Aside0.mk (Kd.S_elder' (by (with_reducible repeat (first | apply Kd.S_alloc | apply Kd.S_drewN | apply Kd.S_drew)); exact HO170.out) (Kd.R_base ho0) hb); have n2_ := Aside0.mk (Kd.R_lower (Kd.R_new' ho0 (Kd.R_lt (by (with_reducible repeat (first | apply Kd.R_alloc | apply Kd.R_drewN | apply Kd.R_drew)); exact HO166.out))) (below_size (by repeat (first | (with_reducible first | exact HB.out | apply below_alloc | apply pw_below_drewN | apply below_drew1) | exact HB.out)))); have n3_ := Aside0.mk (below_step (by repeat (first | (with_reducible first | exact HB.out | apply below_alloc | apply pw_below_drewN | apply below_drew1) | exact HB.out)) hb); clear HO166; clear HO170; clear HB; have HO166 := n0_; have HO170 := n1_; have HO173 := n2_; have HB := n3_; clear n0_ n1_ n2_ n3_; (try clear hb); (try clear hb2); (try clear hk); (try clear hi); (try clear ho0); obtain ⟨Ao13, co13, eo13⟩ := Kd.R_slice HO173.out; subst eo13) | ((with_reducible refine gate_callee (f := 30) rfl ?_); refine goesL_ (some 30) rfl rfl Try.func30 (by kernel_rfl) rfl #[.slice Ao13 t171.length co13, .int .i64 a1] rfl (by (try simp only [List.map_toArray, List.map_cons, List.map_nil]); first | done | rfl | (simp only [List.length_drop, List.length_take]; rfl)) ?_; (with_reducible refine (impl_RegionRules.calls k _ _ t171 a1 t174 t175 _ ?side1 ?side2 A7.out).mono ?_); (case side1 => repeat (first | exact (Kd.R_reads' HO173.out).2.2 | (with_reducible refine Kd.C_alloc ?_ _) | (with_reducible refine Kd.C_drewN ?_ _) | (with_reducible refine Kd.C_drew ?_))); (case side2 => exact (Kd.R_reads' HO173.out).2.1); rintro e w14 ⟨v176, rfl, ho0, hb⟩; refine ⟨_, rfl, ?_⟩; have n0_ := Aside0.mk (Kd.R_below (by (with_reducible repeat (first | apply Kd.R_alloc | apply Kd.R_drewN | apply Kd.R_drew)); exact HO166.out) hb); have n1_ := Aside0.mk (Kd.S_elder' (by (with_reducible repeat (first | apply Kd.S_alloc | apply Kd.S_drewN | apply Kd.S_drew)); exact HO170.out) (Kd.S_base ho0) hb); have n2_ := Aside0.mk (Kd.R_below (by (with_reducible repeat (first | apply Kd.R_alloc | apply Kd.R_drewN | apply Kd.R_drew)); exact HO173.out) hb); have n3_ := Aside0.mk (Kd.S_lower (Kd.S_new' (Kd.S_new' (Kd.S_new' (Kd.S_mono (ok' := fun k_ => B_ ≤ k_) (Kd.S_bound ho0) (fun k_ hk_ => Nat.le_trans HZ1.out hk_.2.1)) (Kd.R_lt (by (with_reducible repeat (first | apply Kd.R_alloc | apply Kd.R_drewN | apply Kd.R_drew)); exact HO166.out))) (Kd.S_lt (by (with_reducible repeat (first | apply Kd.S_alloc | apply Kd.S_drewN | apply Kd.S_drew)); exact HO170.out))) (Kd.R_lt (by (with_reducible repeat (first | apply Kd.R_alloc | apply Kd.R_drewN | apply Kd.R_drew)); exact HO173.out))) (below_size (by repeat (first | (with_reducible first | exact HB.out | apply below_alloc | apply pw_below_drewN | apply below_drew1) | exact HB.out)))); have n4_ := Aside0.mk (below_step (by repeat (first | (with_reducible first | exact HB.out | apply below_alloc | apply pw_below_drewN | apply below_drew1) | exact HB.out)) hb); clear HO166; clear HO170; clear HO173; clear HB; have HO166 := n0_; have HO170 := n1_; have HO173 := n2_; have HO177 := n3_; have HB := n4_; clear n0_ n1_ n2_ n3_ n4_; (try clear hb); (try clear hb2); (try clear hk); (try clear hi); (try clear ho0)))
    (try simp only [Act.put, List.setIfInBounds_toArray, List.set_cons_zero, List.set_cons_succ])
    go_cut [41] (fun v41 wc => ∃ (kq : Nat) (x41_7 : Bool), v41 = .bool x41_7 ∧ Aside0 (laws_FnExactRegionRules.j0 kq l0 a1 t167 t168 t171 t174 t175 x41_7 = some r) ∧ Aside0 (kq ≤ k) ∧ Aside0 (Kd.S k61 61 wc w.heap.size (fun k_ => k_ < B_ ∧ some k_ ≠ ((.slice Ao13 t171.length co13) : Value).ownBlock ∧ some k_ ≠ (v176 : Value).ownBlock) v169 t167) ∧ Aside0 (Kd.R (Kd.int .i64) 3 wc w.heap.size (fun _ => True) (.slice Ao13 t171.length co13) t171) ∧ Aside0 (Kd.S k61 61 wc w.heap.size (fun k_ => B_ ≤ k_ ∧ some k_ ≠ (v169 : Value).ownBlock ∧ some k_ ≠ ((.slice Ao13 t171.length co13) : Value).ownBlock) v176 t174) ∧ Aside0 (Below w.heap.size w wc))
    case first =>
      have H := HC8.out
      clear HC8
      replace H := Option.bind_eq_some_iff.mp H
      obtain ⟨t178, A150, H⟩ := H
      replace H : (if t178 = true then (laws_FnExactRegionRules.j0 k l0 a1 t167 t168 t171 t174 t175 (t175 != t168)) else (laws_FnExactRegionRules.j0 k l0 a1 t167 t168 t171 t174 t175 true)) = some r := H
      have A15 := Aside0.mk A150
      clear A150
      by_cases c16 : t178 = true
      · subst c16
        have H1 : (laws_FnExactRegionRules.j0 k l0 a1 t167 t168 t171 t174 t175 (t175 != t168)) = some r := by rw [if_pos rfl] at H; exact H
        clear H
        have H := H1
        clear H1
        have H' := Aside0.mk H
        clear H
        obtain ⟨Ao17, co17, eo17⟩ := Kd.S_slice HO177.out
        subst eo17
        obtain ⟨Ao18, co18, eo18⟩ := Kd.S_slice HO170.out
        subst eo18
        go_wp2_with (first | ((with_reducible refine gate_callee (f := 31) rfl ?_); refine goesL_ (some 35) rfl rfl Try.func31 (by kernel_rfl) rfl #[.slice Ao17 t174.length co17, .slice Ao18 t167.length co18] rfl (by (try simp only [List.map_toArray, List.map_cons, List.map_nil]); first | done | rfl | (simp only [List.length_drop, List.length_take]; rfl)) ?_; (with_reducible refine (laws_eqRuleS.calls k _ _ t174 _ _ t167 true _ ?side1 ?side2 ?side3 ?side4 A15.out).mono ?_); (case side1 => repeat (first | exact (Kd.S_reads' HO177.out).2.2 | (with_reducible refine Kd.C_alloc ?_ _) | (with_reducible refine Kd.C_drewN ?_ _) | (with_reducible refine Kd.C_drew ?_))); (case side2 => exact (Kd.S_reads' HO177.out).2.1); (case side3 => repeat (first | exact (Kd.S_reads' HO170.out).2.2 | (with_reducible refine Kd.C_alloc ?_ _) | (with_reducible refine Kd.C_drewN ?_ _) | (with_reducible refine Kd.C_drew ?_))); (case side4 => exact (Kd.S_reads' HO170.out).2.1); rintro e w19 ⟨rfl, hb⟩; refine ⟨_, rfl, ?_⟩; have n0_ := Aside0.mk (Kd.R_below (by (with_reducible repeat (first | apply Kd.R_alloc | apply Kd.R_drewN | apply Kd.R_drew)); exact HO166.out) hb); have n1_ := Aside0.mk (Kd.S_below (by (with_reducible repeat (first | apply Kd.S_alloc | apply Kd.S_drewN | apply Kd.S_drew)); exact HO170.out) hb); have n2_ := Aside0.mk (Kd.R_below (by (with_reducible repeat (first | apply Kd.R_alloc | apply Kd.R_drewN | apply Kd.R_drew)); exact HO173.out) hb); have n3_ := Aside0.mk (Kd.S_below (by (with_reducible repeat (first | apply Kd.S_alloc | apply Kd.S_drewN | apply Kd.S_drew)); exact HO177.out) hb); have n4_ := Aside0.mk (below_step (by repeat (first | (with_reducible first | exact HB.out | apply below_alloc | apply pw_below_drewN | apply below_drew1) | exact HB.out)) hb); clear HO166; clear HO170; clear HO173; clear HO177; clear HB; have HO166 := n0_; have HO170 := n1_; have HO173 := n2_; have HO177 := n3_; have HB := n4_; clear n0_ n1_ n2_ n3_ n4_; (try clear hb); (try clear hb2); (try clear hk); (try clear hi)))
        go_meet
        case rel => exact ⟨_, ((t175 != t168)), (by first | rfl | (simp; done) | (simp [*]; done)), H', ⟨by first | omega | exact Nat.le_refl _⟩, ⟨by (with_reducible repeat (first | apply Kd.S_alloc | apply Kd.S_drewN | apply Kd.S_drew)); exact Kd.S_mono HO170.out (fun _ hk_ => by (revert hk_; (try simp only [and_imp]); intros; (repeat' (first | assumption | exact trivial | apply And.intro))))⟩, ⟨by (with_reducible repeat (first | apply Kd.R_alloc | apply Kd.R_drewN | apply Kd.R_drew)); exact Kd.R_mono HO173.out (fun _ hk => trivial)⟩, ⟨by (with_reducible repeat (first | apply Kd.S_alloc | apply Kd.S_drewN | apply Kd.S_drew)); exact Kd.S_mono HO177.out (fun _ hk_ => by (revert hk_; (try simp only [and_imp]); intros; (repeat' (first | assumption | exact trivial | apply And.intro))))⟩, ⟨by repeat (first | (with_reducible first | exact HB.out | apply below_alloc | apply pw_below_drewN | apply below_drew1) | exact HB.out)⟩⟩
      · replace c16 := Bool.eq_false_iff.mpr c16
        subst c16
        have H1 : (laws_FnExactRegionRules.j0 k l0 a1 t167 t168 t171 t174 t175 true) = some r := by rw [if_neg (show ¬ (false = true) by decide)] at H; exact H
        clear H
        have H := H1
        clear H1
        have H' := Aside0.mk H
        clear H
        obtain ⟨Ao20, co20, eo20⟩ := Kd.S_slice HO177.out
        subst eo20
        obtain ⟨Ao21, co21, eo21⟩ := Kd.S_slice HO170.out
        subst eo21
        go_wp2_with (first | ((with_reducible refine gate_callee (f := 31) rfl ?_); refine goesL_ (some 35) rfl rfl Try.func31 (by kernel_rfl) rfl #[.slice Ao20 t174.length co20, .slice Ao21 t167.length co21] rfl (by (try simp only [List.map_toArray, List.map_cons, List.map_nil]); first | done | rfl | (simp only [List.length_drop, List.length_take]; rfl)) ?_; (with_reducible refine (laws_eqRuleS.calls k _ _ t174 _ _ t167 false _ ?side1 ?side2 ?side3 ?side4 A15.out).mono ?_); (case side1 => repeat (first | exact (Kd.S_reads' HO177.out).2.2 | (with_reducible refine Kd.C_alloc ?_ _) | (with_reducible refine Kd.C_drewN ?_ _) | (with_reducible refine Kd.C_drew ?_))); (case side2 => exact (Kd.S_reads' HO177.out).2.1); (case side3 => repeat (first | exact (Kd.S_reads' HO170.out).2.2 | (with_reducible refine Kd.C_alloc ?_ _) | (with_reducible refine Kd.C_drewN ?_ _) | (with_reducible refine Kd.C_drew ?_))); (case side4 => exact (Kd.S_reads' HO170.out).2.1); rintro e w22 ⟨rfl, hb⟩; refine ⟨_, rfl, ?_⟩; have n0_ := Aside0.mk (Kd.R_below (by (with_reducible repeat (first | apply Kd.R_alloc | apply Kd.R_drewN | apply Kd.R_drew)); exact HO166.out) hb); have n1_ := Aside0.mk (Kd.S_below (by (with_reducible repeat (first | apply Kd.S_alloc | apply Kd.S_drewN | apply Kd.S_drew)); exact HO170.out) hb); have n2_ := Aside0.mk (Kd.R_below (by (with_reducible repeat (first | apply Kd.R_alloc | apply Kd.R_drewN | apply Kd.R_drew)); exact HO173.out) hb); have n3_ := Aside0.mk (Kd.S_below (by (with_reducible repeat (first | apply Kd.S_alloc | apply Kd.S_drewN | apply Kd.S_drew)); exact HO177.out) hb); have n4_ := Aside0.mk (below_step (by repeat (first | (with_reducible first | exact HB.out | apply below_alloc | apply pw_below_drewN | apply below_drew1) | exact HB.out)) hb); clear HO166; clear HO170; clear HO173; clear HO177; clear HB; have HO166 := n0_; have HO170 := n1_; have HO173 := n2_; have HO177 := n3_; have HB := n4_; clear n0_ n1_ n2_ n3_ n4_; (try clear hb); (try clear hb2); (try clear hk); (try clear hi)))
        go_meet
        case rel => exact ⟨_, (true), (by first | rfl | (simp; done) | (simp [*]; done)), H', ⟨by first | omega | exact Nat.le_refl _⟩, ⟨by (with_reducible repeat (first | apply Kd.S_alloc | apply Kd.S_drewN | apply Kd.S_drew)); exact Kd.S_mono HO170.out (fun _ hk_ => by (revert hk_; (try simp only [and_imp]); intros; (repeat' (first | assumption | exact trivial | apply And.intro))))⟩, ⟨by (with_reducible repeat (first | apply Kd.R_alloc | apply Kd.R_drewN | apply Kd.R_drew)); exact Kd.R_mono HO173.out (fun _ hk => trivial)⟩, ⟨by (with_reducible repeat (first | apply Kd.S_alloc | apply Kd.S_drewN | apply Kd.S_drew)); exact Kd.S_mono HO177.out (fun _ hk_ => by (revert hk_; (try simp only [and_imp]); intros; (repeat' (first | assumption | exact trivial | apply And.intro))))⟩, ⟨by repeat (first | (with_reducible first | exact HB.out | apply below_alloc | apply pw_below_drewN | apply below_drew1) | exact HB.out)⟩⟩
    case rest =>
      clear HC8
      try clear c1
      try clear c2
      try clear p2
      try clear c3
      try clear c3b0
      try clear c3b1
      try clear c6
      try clear c16
      obtain ⟨kq, x41_7, rfl, HA, HJ7, HO_5, HO_7, HO_8, HB⟩ := hcut
      cases kq with
      | zero => exact absurd HA.out (by simp [laws_FnExactRegionRules.j0])
      | succ kj7 =>
        have H := HA.out
        clear HA
        simp only [laws_FnExactRegionRules.j0] at H
        by_cases c23 : x41_7 = true
        · subst c23
          have H1 : (some false) = some r := by rw [if_pos rfl] at H; exact H
          clear H
          have H := H1
          clear H1
          obtain rfl := Option.some.inj H
          go_wp2
          go_ret
          exact ⟨by first | rfl | (simp [errW_none, errW_some] <;> rfl) | (simp [*, errW_none, errW_some] <;> rfl), by repeat (first | (with_reducible first | exact HB.out | apply below_alloc | apply pw_below_drewN | apply below_drew1) | exact HB.out)⟩
        · replace c23 := Bool.eq_false_iff.mpr c23
          subst c23
          have H1 : ((laws_toIntS.f kj7 l0).bind fun t179 => ((laws_eqIntS.f kj7 t171 t179).bind fun t182 => (if t182 = true then ((laws_markIntS.f kj7 t171 1).bind fun bt183 => (if bt183.1 < 0 then (laws_FnExactRegionRules.j1 kj7 l0 a1 t167 t168 t174 true) else ((laws_eqRuleS.f kj7 t174 t167).bind fun t185 => (if t185 = true then (laws_FnExactRegionRules.j1 kj7 l0 a1 t167 t168 t174 (t175 != t168)) else (laws_FnExactRegionRules.j1 kj7 l0 a1 t167 t168 t174 true))))) else (some false)))) = some r := by rw [if_neg (show ¬ (false = true) by decide)] at H; exact H
          clear H
          have H := H1
          clear H1
          replace H := Option.bind_eq_some_iff.mp H
          obtain ⟨t179, A240, H⟩ := H
          replace H : ((laws_eqIntS.f kj7 t171 t179).bind fun t182 => (if t182 = true then ((laws_markIntS.f kj7 t171 1).bind fun bt183 => (if bt183.1 < 0 then (laws_FnExactRegionRules.j1 kj7 l0 a1 t167 t168 t174 true) else ((laws_eqRuleS.f kj7 t174 t167).bind fun t185 => (if t185 = true then (laws_FnExactRegionRules.j1 kj7 l0 a1 t167 t168 t174 (t175 != t168)) else (laws_FnExactRegionRules.j1 kj7 l0 a1 t167 t168 t174 true))))) else (some false))) = some r := H
          have A24 := Aside0.mk A240
          clear A240
          replace H := Option.bind_eq_some_iff.mp H
          obtain ⟨t182, A250, H⟩ := H
          replace H : (if t182 = true then ((laws_markIntS.f kj7 t171 1).bind fun bt183 => (if bt183.1 < 0 then (laws_FnExactRegionRules.j1 kj7 l0 a1 t167 t168 t174 true) else ((laws_eqRuleS.f kj7 t174 t167).bind fun t185 => (if t185 = true then (laws_FnExactRegionRules.j1 kj7 l0 a1 t167 t168 t174 (t175 != t168)) else (laws_FnExactRegionRules.j1 kj7 l0 a1 t167 t168 t174 true))))) else (some false)) = some r := H
          have A25 := Aside0.mk A250
          clear A250
          by_cases c26 : t182 = true
          · subst c26
            have H1 : ((laws_markIntS.f kj7 t171 1).bind fun bt183 => (if bt183.1 < 0 then (laws_FnExactRegionRules.j1 kj7 l0 a1 t167 t168 t174 true) else ((laws_eqRuleS.f kj7 t174 t167).bind fun t185 => (if t185 = true then (laws_FnExactRegionRules.j1 kj7 l0 a1 t167 t168 t174 (t175 != t168)) else (laws_FnExactRegionRules.j1 kj7 l0 a1 t167 t168 t174 true))))) = some r := by rw [if_pos rfl] at H; exact H
            clear H
            have H := H1
            clear H1
            replace H := Option.bind_eq_some_iff.mp H
            obtain ⟨⟨t183, t184⟩, A270, H⟩ := H
            replace H : (if t183 < 0 then (laws_FnExactRegionRules.j1 kj7 l0 a1 t167 t168 t174 true) else ((laws_eqRuleS.f kj7 t174 t167).bind fun t185 => (if t185 = true then (laws_FnExactRegionRules.j1 kj7 l0 a1 t167 t168 t174 (t175 != t168)) else (laws_FnExactRegionRules.j1 kj7 l0 a1 t167 t168 t174 true)))) = some r := H
            have A27 := Aside0.mk A270
            clear A270
            have HC28 := Aside0.mk H
            clear H
            go_upto_region 12 with (first | ((with_reducible refine gate_callee (f := 29) rfl ?_); refine goesL_ (some 44) rfl rfl Try.func29 (by kernel_rfl) rfl #[.slice A0 l0.length c0] rfl (by (try simp only [List.map_toArray, List.map_cons, List.map_nil]); first | done | rfl | (simp only [List.length_drop, List.length_take]; rfl)) ?_; (with_reducible refine (laws_toIntS.calls kj7 _ _ l0 t179 _ ?side1 ?side2 A24.out).mono ?_); (case side1 => repeat (first | exact (Kd.C_below HR0.out HB.out) | (with_reducible refine Kd.C_alloc ?_ _) | (with_reducible refine Kd.C_drewN ?_ _) | (with_reducible refine Kd.C_drew ?_))); (case side2 => exact HC0.out); rintro e w29 ⟨v180, rfl, ho0, hb⟩; refine ⟨_, rfl, ?_⟩; have n0_ := Aside0.mk (Kd.S_elder' (by (with_reducible repeat (first | apply Kd.S_alloc | apply Kd.S_drewN | apply Kd.S_drew)); exact HO_5.out) (Kd.R_base ho0) hb); have n1_ := Aside0.mk (Kd.R_elder' (by (with_reducible repeat (first | apply Kd.R_alloc | apply Kd.R_drewN | apply Kd.R_drew)); exact HO_7.out) (Kd.R_base ho0) hb); have n2_ := Aside0.mk (Kd.S_elder' (by (with_reducible repeat (first | apply Kd.S_alloc | apply Kd.S_drewN | apply Kd.S_drew)); exact HO_8.out) (Kd.R_base ho0) hb); have n3_ := Aside0.mk (Kd.R_lower (Kd.R_new' ho0 (Kd.R_lt (by (with_reducible repeat (first | apply Kd.R_alloc | apply Kd.R_drewN | apply Kd.R_drew)); exact HO_7.out))) (below_size (by repeat (first | (with_reducible first | exact HB.out | apply below_alloc | apply pw_below_drewN | apply below_drew1) | exact HB.out)))); have n4_ := Aside0.mk (below_step (by repeat (first | (with_reducible first | exact HB.out | apply below_alloc | apply pw_below_drewN | apply below_drew1) | exact HB.out)) hb); clear HO_5; clear HO_7; clear HO_8; clear HB; have HO_5 := n0_; have HO_7 := n1_; have HO_8 := n2_; have HO181 := n3_; have HB := n4_; clear n0_ n1_ n2_ n3_ n4_; (try clear hb); (try clear hb2); (try clear hk); (try clear hi); (try clear ho0); obtain ⟨Ao30, co30, eo30⟩ := Kd.R_slice HO181.out; subst eo30) | ((with_reducible refine gate_callee (f := 22) rfl ?_); refine goesL_ (some 45) rfl rfl Try.func22 (by kernel_rfl) rfl #[.slice Ao13 t171.length co13, .slice Ao30 t179.length co30] rfl (by (try simp only [List.map_toArray, List.map_cons, List.map_nil]); first | done | rfl | (simp only [List.length_drop, List.length_take]; rfl)) ?_; (with_reducible refine (laws_eqIntS.calls kj7 _ _ t171 _ _ t179 true _ ?side1 ?side2 ?side3 ?side4 A25.out).mono ?_); (case side1 => repeat (first | exact (Kd.R_reads' HO_7.out).2.2 | (with_reducible refine Kd.C_alloc ?_ _) | (with_reducible refine Kd.C_drewN ?_ _) | (with_reducible refine Kd.C_drew ?_))); (case side2 => exact (Kd.R_reads' HO_7.out).2.1); (case side3 => repeat (first | exact (Kd.R_reads' HO181.out).2.2 | (with_reducible refine Kd.C_alloc ?_ _) | (with_reducible refine Kd.C_drewN ?_ _) | (with_reducible refine Kd.C_drew ?_))); (case side4 => exact (Kd.R_reads' HO181.out).2.1); rintro e w' ⟨rfl, ⟨nd, rfl⟩⟩; refine ⟨_, rfl, ?_⟩) | ((with_reducible refine gate_callee (f := 23) rfl ?_); refine goesL_ (some 49) rfl rfl Try.func23 (by kernel_rfl) rfl #[.slice Ao13 t171.length co13, .int .i64 1] rfl (by (try simp only [List.map_toArray, List.map_cons, List.map_nil]); first | done | rfl | (simp only [List.length_drop, List.length_take]; rfl)) ?_; (with_reducible refine (laws_markIntS.calls kj7 (fun k_ => some k_ = (.slice Ao13 t171.length co13 : Value).ownBlock) (.slice Ao13 t171.length co13) t171 1 t183 t184 w _ ?side1 ?side2 A27.out).mono ?_); (case side1 => repeat (first | (with_reducible first | exact HB.out | apply below_alloc | apply pw_below_drewN | apply below_drew1) | exact HB.out)); (case side2 => exact Kd.R_tight rfl HO_7.out); rintro e w31 ⟨rfl, hy0, hb, hkp⟩; refine ⟨_, rfl, ?_⟩; have n0_ := Aside0.mk (Kd.S_mono (ok' := fun k_ => k_ < B_ ∧ some k_ ≠ (.slice Ao13 t171.length co13 : Value).ownBlock ∧ some k_ ≠ (v176 : Value).ownBlock ∧ some k_ ≠ (.slice Ao30 t179.length co30 : Value).ownBlock) (Kd.S_keptB (HO_5.out) hkp (fun k_ hk_ hs_ => by (revert hk_; (try simp only [and_imp]); intros; first | contradiction | exact absurd hs_ (by assumption)))) (fun k_ hk_ => by (revert hk_; (try simp only [and_imp]); intros; (repeat' (first | assumption | exact trivial | apply And.intro))))); have n1_ := Aside0.mk (Kd.R_reok rfl hy0 (fun k_ e_ => HO_7.out.1 k_ e_)); have n2_ := Aside0.mk (Kd.S_mono (ok' := fun k_ => B_ ≤ k_ ∧ some k_ ≠ (v169 : Value).ownBlock ∧ some k_ ≠ (.slice Ao13 t171.length co13 : Value).ownBlock ∧ some k_ ≠ (.slice Ao30 t179.length co30 : Value).ownBlock) (Kd.S_keptB (HO_8.out) hkp (fun k_ hk_ hs_ => by (revert hk_; (try simp only [and_imp]); intros; first | contradiction | exact absurd hs_ (by assumption)))) (fun k_ hk_ => by (revert hk_; (try simp only [and_imp]); intros; (repeat' (first | assumption | exact trivial | apply And.intro))))); have n3_ := Aside0.mk (Kd.R_mono (ok' := fun k_ => some k_ ≠ (.slice Ao13 t171.length co13 : Value).ownBlock) (Kd.R_keptB (HO181.out) hkp (fun k_ hk_ hs_ => (hk_.2) hs_)) (fun k_ hk_ => hk_.1.2)); have n4_ := Aside0.mk (hb); clear HO_5; clear HO_7; clear HO_8; clear HO181; clear HB; have HO_5 := n0_; have HO_7 := n1_; have HO_8 := n2_; have HO181 := n3_; have HB := n4_; clear n0_ n1_ n2_ n3_ n4_; (try clear hb); (try clear hkp); (try clear hy0)))
            (try simp only [Act.put, List.setIfInBounds_toArray, List.set_cons_zero, List.set_cons_succ])
            go_cut [62] (fun v62 wc => ∃ (kq : Nat) (x62_27 : Bool), v62 = .bool x62_27 ∧ Aside0 (laws_FnExactRegionRules.j1 kq l0 a1 t167 t168 t174 x62_27 = some r) ∧ Aside0 (kq ≤ kj7) ∧ Aside0 (Kd.S k61 61 wc w.heap.size (fun k_ => k_ < B_ ∧ some k_ ≠ (v176 : Value).ownBlock) v169 t167) ∧ Aside0 (Kd.S k61 61 wc w.heap.size (fun k_ => B_ ≤ k_ ∧ some k_ ≠ (v169 : Value).ownBlock) v176 t174) ∧ Aside0 (Below w.heap.size w wc))
            case first =>
              have H := HC28.out
              clear HC28
              by_cases c32 : t183 < 0
              · rw [if_pos c32] at H
                have c32b0 : decide (t183 < 0) = true := decide_eq_true c32
                clear c32
                (first | rw [c32b0] | (simp only [i64_w, i32_w]; rw [c32b0]) | skip)
                have H' := Aside0.mk H
                clear H
                go_wp2
                go_meet
                case rel => exact ⟨_, (true), (by first | rfl | (simp; done) | (simp [*]; done)), H', ⟨by have := HJ7.out; first | omega | exact Nat.le_refl _⟩, ⟨by (with_reducible repeat (first | apply Kd.S_alloc | apply Kd.S_drewN | apply Kd.S_drew)); exact Kd.S_mono HO_5.out (fun _ hk_ => by (revert hk_; (try simp only [and_imp]); intros; (repeat' (first | assumption | exact trivial | apply And.intro))))⟩, ⟨by (with_reducible repeat (first | apply Kd.S_alloc | apply Kd.S_drewN | apply Kd.S_drew)); exact Kd.S_mono HO_8.out (fun _ hk_ => by (revert hk_; (try simp only [and_imp]); intros; (repeat' (first | assumption | exact trivial | apply And.intro))))⟩, ⟨by repeat (first | (with_reducible first | exact HB.out | apply below_alloc | apply pw_below_drewN | apply below_drew1) | exact HB.out)⟩⟩
              · rw [if_neg c32] at H
                have c32b0 : decide (t183 < 0) = false := decide_eq_false c32
                clear c32
                (first | rw [c32b0] | (simp only [i64_w, i32_w]; rw [c32b0]) | skip)
                replace H := Option.bind_eq_some_iff.mp H
                obtain ⟨t185, A330, H⟩ := H
                replace H : (if t185 = true then (laws_FnExactRegionRules.j1 kj7 l0 a1 t167 t168 t174 (t175 != t168)) else (laws_FnExactRegionRules.j1 kj7 l0 a1 t167 t168 t174 true)) = some r := H
                have A33 := Aside0.mk A330
                clear A330
                by_cases c34 : t185 = true
                · subst c34
                  have H1 : (laws_FnExactRegionRules.j1 kj7 l0 a1 t167 t168 t174 (t175 != t168)) = some r := by rw [if_pos rfl] at H; exact H
                  clear H
                  have H := H1
                  clear H1
                  have H' := Aside0.mk H
                  clear H
                  obtain ⟨Ao35, co35, eo35⟩ := Kd.S_slice HO_8.out
                  subst eo35
                  obtain ⟨Ao36, co36, eo36⟩ := Kd.S_slice HO_5.out
                  subst eo36
                  go_wp2_with (first | (go_at_call 31; (with_reducible refine (laws_eqRuleS.calls kj7 _ _ t174 _ _ t167 true _ ?side1 ?side2 ?side3 ?side4 A33.out).mono ?_); (case side1 => repeat (first | exact (Kd.S_reads' HO_8.out).2.2 | (with_reducible refine Kd.C_alloc ?_ _) | (with_reducible refine Kd.C_drewN ?_ _) | (with_reducible refine Kd.C_drew ?_))); (case side2 => exact (Kd.S_reads' HO_8.out).2.1); (case side3 => repeat (first | exact (Kd.S_reads' HO_5.out).2.2 | (with_reducible refine Kd.C_alloc ?_ _) | (with_reducible refine Kd.C_drewN ?_ _) | (with_reducible refine Kd.C_drew ?_))); (case side4 => exact (Kd.S_reads' HO_5.out).2.1); rintro e w37 ⟨rfl, hb⟩; have n0_ := Aside0.mk (Kd.S_below (by (with_reducible repeat (first | apply Kd.S_alloc | apply Kd.S_drewN | apply Kd.S_drew)); exact HO_5.out) hb); have n1_ := Aside0.mk (Kd.R_below (by (with_reducible repeat (first | apply Kd.R_alloc | apply Kd.R_drewN | apply Kd.R_drew)); exact HO_7.out) hb); have n2_ := Aside0.mk (Kd.S_below (by (with_reducible repeat (first | apply Kd.S_alloc | apply Kd.S_drewN | apply Kd.S_drew)); exact HO_8.out) hb); have n3_ := Aside0.mk (Kd.R_below (by (with_reducible repeat (first | apply Kd.R_alloc | apply Kd.R_drewN | apply Kd.R_drew)); exact HO181.out) hb); have n4_ := Aside0.mk (below_step (by repeat (first | (with_reducible first | exact HB.out | apply below_alloc | apply pw_below_drewN | apply below_drew1) | exact HB.out)) hb); clear HO_5; clear HO_7; clear HO_8; clear HO181; clear HB; have HO_5 := n0_; have HO_7 := n1_; have HO_8 := n2_; have HO181 := n3_; have HB := n4_; clear n0_ n1_ n2_ n3_ n4_; (try clear hb); (try clear hb2); (try clear hk); (try clear hi)))
                  go_meet
                  case rel => exact ⟨_, ((t175 != t168)), (by first | rfl | (simp; done) | (simp [*]; done)), H', ⟨by have := HJ7.out; first | omega | exact Nat.le_refl _⟩, ⟨by (with_reducible repeat (first | apply Kd.S_alloc | apply Kd.S_drewN | apply Kd.S_drew)); exact Kd.S_mono HO_5.out (fun _ hk_ => by (revert hk_; (try simp only [and_imp]); intros; (repeat' (first | assumption | exact trivial | apply And.intro))))⟩, ⟨by (with_reducible repeat (first | apply Kd.S_alloc | apply Kd.S_drewN | apply Kd.S_drew)); exact Kd.S_mono HO_8.out (fun _ hk_ => by (revert hk_; (try simp only [and_imp]); intros; (repeat' (first | assumption | exact trivial | apply And.intro))))⟩, ⟨by repeat (first | (with_reducible first | exact HB.out | apply below_alloc | apply pw_below_drewN | apply below_drew1) | exact HB.out)⟩⟩
                · replace c34 := Bool.eq_false_iff.mpr c34
                  subst c34
                  have H1 : (laws_FnExactRegionRules.j1 kj7 l0 a1 t167 t168 t174 true) = some r := by rw [if_neg (show ¬ (false = true) by decide)] at H; exact H
                  clear H
                  have H := H1
                  clear H1
                  have H' := Aside0.mk H
                  clear H
                  obtain ⟨Ao38, co38, eo38⟩ := Kd.S_slice HO_8.out
                  subst eo38
                  obtain ⟨Ao39, co39, eo39⟩ := Kd.S_slice HO_5.out
                  subst eo39
                  go_wp2_with (first | (go_at_call 31; (with_reducible refine (laws_eqRuleS.calls kj7 _ _ t174 _ _ t167 false _ ?side1 ?side2 ?side3 ?side4 A33.out).mono ?_); (case side1 => repeat (first | exact (Kd.S_reads' HO_8.out).2.2 | (with_reducible refine Kd.C_alloc ?_ _) | (with_reducible refine Kd.C_drewN ?_ _) | (with_reducible refine Kd.C_drew ?_))); (case side2 => exact (Kd.S_reads' HO_8.out).2.1); (case side3 => repeat (first | exact (Kd.S_reads' HO_5.out).2.2 | (with_reducible refine Kd.C_alloc ?_ _) | (with_reducible refine Kd.C_drewN ?_ _) | (with_reducible refine Kd.C_drew ?_))); (case side4 => exact (Kd.S_reads' HO_5.out).2.1); rintro e w40 ⟨rfl, hb⟩; have n0_ := Aside0.mk (Kd.S_below (by (with_reducible repeat (first | apply Kd.S_alloc | apply Kd.S_drewN | apply Kd.S_drew)); exact HO_5.out) hb); have n1_ := Aside0.mk (Kd.R_below (by (with_reducible repeat (first | apply Kd.R_alloc | apply Kd.R_drewN | apply Kd.R_drew)); exact HO_7.out) hb); have n2_ := Aside0.mk (Kd.S_below (by (with_reducible repeat (first | apply Kd.S_alloc | apply Kd.S_drewN | apply Kd.S_drew)); exact HO_8.out) hb); have n3_ := Aside0.mk (Kd.R_below (by (with_reducible repeat (first | apply Kd.R_alloc | apply Kd.R_drewN | apply Kd.R_drew)); exact HO181.out) hb); have n4_ := Aside0.mk (below_step (by repeat (first | (with_reducible first | exact HB.out | apply below_alloc | apply pw_below_drewN | apply below_drew1) | exact HB.out)) hb); clear HO_5; clear HO_7; clear HO_8; clear HO181; clear HB; have HO_5 := n0_; have HO_7 := n1_; have HO_8 := n2_; have HO181 := n3_; have HB := n4_; clear n0_ n1_ n2_ n3_ n4_; (try clear hb); (try clear hb2); (try clear hk); (try clear hi)))
                  go_meet
                  case rel => exact ⟨_, (true), (by first | rfl | (simp; done) | (simp [*]; done)), H', ⟨by have := HJ7.out; first | omega | exact Nat.le_refl _⟩, ⟨by (with_reducible repeat (first | apply Kd.S_alloc | apply Kd.S_drewN | apply Kd.S_drew)); exact Kd.S_mono HO_5.out (fun _ hk_ => by (revert hk_; (try simp only [and_imp]); intros; (repeat' (first | assumption | exact trivial | apply And.intro))))⟩, ⟨by (with_reducible repeat (first | apply Kd.S_alloc | apply Kd.S_drewN | apply Kd.S_drew)); exact Kd.S_mono HO_8.out (fun _ hk_ => by (revert hk_; (try simp only [and_imp]); intros; (repeat' (first | assumption | exact trivial | apply And.intro))))⟩, ⟨by repeat (first | (with_reducible first | exact HB.out | apply below_alloc | apply pw_below_drewN | apply below_drew1) | exact HB.out)⟩⟩
            case rest =>
              clear HC28
              try clear c1
              try clear c2
              try clear p2
              try clear c3
              try clear c3b0
              try clear c3b1
              try clear c6
              try clear c16
              try clear c22
              try clear c23
              try clear c26
              try clear c28
              try clear c29
              try clear c30
              try clear c31
              try clear c32
              try clear c32b0
              try clear c34
              try clear p2
              obtain ⟨kq, x62_27, rfl, HA, HJ27, HO_5, HO_8, HB⟩ := hcut
              cases kq with
              | zero => exact absurd HA.out (by simp [laws_FnExactRegionRules.j1])
              | succ kj27 =>
                have H := HA.out
                clear HA
                simp only [laws_FnExactRegionRules.j1] at H
                by_cases c41 : x62_27 = true
                · subst c41
                  have H1 : (some false) = some r := by rw [if_pos rfl] at H; exact H
                  clear H
                  have H := H1
                  clear H1
                  obtain rfl := Option.some.inj H
                  go_wp2
                  go_ret
                  exact ⟨by first | rfl | (simp [errW_none, errW_some] <;> rfl) | (simp [*, errW_none, errW_some] <;> rfl), by repeat (first | (with_reducible first | exact HB.out | apply below_alloc | apply pw_below_drewN | apply below_drew1) | exact HB.out)⟩
                · replace c41 := Bool.eq_false_iff.mpr c41
                  subst c41
                  have H1 : ((laws_markRuleS.f kj27 t174 1).bind fun bt186 => ((laws_heldRuleS.f kj27 bt186.2 1).bind fun t187 => (if t187 < 0 then (some false) else (if t187 = bt186.1 then ((laws_toIntS.f kj27 l0).bind fun t188 => ((impl_RegionRules.f kj27 t188 a1).bind fun bt191 => ((laws_eqRuleS.f kj27 bt191.1 t167).bind fun t195 => (if t195 = true then (laws_FnExactRegionRules.j2 kj27 bt186.2 bt186.1 (bt191.2 != t168)) else (laws_FnExactRegionRules.j2 kj27 bt186.2 bt186.1 true))))) else (some false))))) = some r := by rw [if_neg (show ¬ (false = true) by decide)] at H; exact H
                  clear H
                  have H := H1
                  clear H1
                  replace H := Option.bind_eq_some_iff.mp H
                  obtain ⟨⟨t186, t174m⟩, A420, H⟩ := H
                  replace H : ((laws_heldRuleS.f kj27 t174m 1).bind fun t187 => (if t187 < 0 then (some false) else (if t187 = t186 then ((laws_toIntS.f kj27 l0).bind fun t188 => ((impl_RegionRules.f kj27 t188 a1).bind fun bt191 => ((laws_eqRuleS.f kj27 bt191.1 t167).bind fun t195 => (if t195 = true then (laws_FnExactRegionRules.j2 kj27 t174m t186 (bt191.2 != t168)) else (laws_FnExactRegionRules.j2 kj27 t174m t186 true))))) else (some false)))) = some r := H
                  have A42 := Aside0.mk A420
                  clear A420
                  replace H := Option.bind_eq_some_iff.mp H
                  obtain ⟨t187, A430, H⟩ := H
                  replace H : (if t187 < 0 then (some false) else (if t187 = t186 then ((laws_toIntS.f kj27 l0).bind fun t188 => ((impl_RegionRules.f kj27 t188 a1).bind fun bt191 => ((laws_eqRuleS.f kj27 bt191.1 t167).bind fun t195 => (if t195 = true then (laws_FnExactRegionRules.j2 kj27 t174m t186 (bt191.2 != t168)) else (laws_FnExactRegionRules.j2 kj27 t174m t186 true))))) else (some false))) = some r := H
                  have A43 := Aside0.mk A430
                  clear A430
                  by_cases c44 : t187 < 0
                  · rw [if_pos c44] at H
                    have c44b0 : decide (t187 < 0) = true := decide_eq_true c44
                    clear c44
                    obtain rfl := Option.some.inj H
                    obtain ⟨Ao45, co45, eo45⟩ := Kd.S_slice HO_8.out
                    subst eo45
                    go_wp2_with (first | ((with_reducible refine gate_callee (f := 32) rfl ?_); refine goesL_ (some 65) rfl rfl Try.func32 (by kernel_rfl) rfl #[.slice Ao45 t174.length co45, .int .i64 1] rfl (by (try simp only [List.map_toArray, List.map_cons, List.map_nil]); first | done | rfl | (simp only [List.length_drop, List.length_take]; rfl)) ?_; (with_reducible refine (laws_markRuleS.calls kj27 (fun k_ => B_ ≤ k_) (.slice Ao45 t174.length co45) t174 1 t186 t174m w _ ?side1 ?side2 A42.out).mono ?_); (case side1 => repeat (first | (with_reducible first | exact HB.out | apply below_alloc | apply pw_below_drewN | apply below_drew1) | exact HB.out)); (case side2 => exact Kd.S_mono HO_8.out (fun k_ hk_ => by (revert hk_; (try simp only [and_imp]); intros; (repeat' (first | assumption | exact trivial | apply And.intro))))); rintro e w' ⟨rfl, hy0, hb, hkp⟩; refine ⟨_, rfl, ?_⟩; have n0_ := Aside0.mk (Kd.S_mono (ok' := fun _ => True) (Kd.S_keptB (HO_5.out) hkp (fun k_ hk_ hs_ => Nat.not_le.2 (by (revert hk_; (try simp only [and_imp]); intros; (repeat' (first | assumption | exact trivial | apply And.intro))) : k_ < B_) hs_)) (fun _ _ => trivial)); have n1_ := Aside0.mk hy0; have n2_ := Aside0.mk hb; clear HO_5; clear HO_8; clear HB; have HO_5 := n0_; have HO_8 := n1_; have HB := n2_; clear n0_ n1_ n2_; (try clear hb); (try clear hkp); (try clear hy0)) | ((with_reducible refine gate_callee (f := 33) rfl ?_); refine goesL_ (some 68) rfl rfl Try.func33 (by kernel_rfl) rfl #[.slice Ao45 t174.length co45, .int .i64 1] rfl (by (try simp only [List.map_toArray, List.map_cons, List.map_nil]); first | done | rfl | (simp only [List.length_drop, List.length_take]; rfl)) ?_; (with_reducible refine (held_S kj27 _ _ _ t174m 1 t187 _ ?side1 A43.out).mono ?_); (case side1 => first | exact ⟨_, _, HO_8.out⟩ | exact ⟨_, _, Kd.S_drew HO_8.out⟩ | exact ⟨_, _, Kd.S_drewN HO_8.out _⟩); rintro e w' ⟨rfl, ⟨nd, rfl⟩⟩; refine ⟨_, rfl, ?_⟩))
                    go_ret
                    exact ⟨by first | rfl | (simp [errW_none, errW_some] <;> rfl) | (simp [*, errW_none, errW_some] <;> rfl), by repeat (first | (with_reducible first | exact HB.out | apply below_alloc | apply pw_below_drewN | apply below_drew1) | exact HB.out)⟩
                  · rw [if_neg c44] at H
                    have c44b0 : decide (t187 < 0) = false := decide_eq_false c44
                    clear c44
                    by_cases c46 : t187 = t186
                    · rw [if_pos c46] at H
                      have c46b0 : (t187 == t186) = true := beq_iff_eq.mpr c46
                      have c46b1 : (t187 != t186) = false := bne_eq_false_iff_eq.mpr c46
                      clear c46
                      replace H := Option.bind_eq_some_iff.mp H
                      obtain ⟨t188, A470, H⟩ := H
                      replace H : ((impl_RegionRules.f kj27 t188 a1).bind fun bt191 => ((laws_eqRuleS.f kj27 bt191.1 t167).bind fun t195 => (if t195 = true then (laws_FnExactRegionRules.j2 kj27 t174m t186 (bt191.2 != t168)) else (laws_FnExactRegionRules.j2 kj27 t174m t186 true)))) = some r := H
                      have A47 := Aside0.mk A470
                      clear A470
                      replace H := Option.bind_eq_some_iff.mp H
                      obtain ⟨⟨t191, t192⟩, A480, H⟩ := H
                      replace H : ((laws_eqRuleS.f kj27 t191 t167).bind fun t195 => (if t195 = true then (laws_FnExactRegionRules.j2 kj27 t174m t186 (t192 != t168)) else (laws_FnExactRegionRules.j2 kj27 t174m t186 true))) = some r := H
                      have A48 := Aside0.mk A480
                      clear A480
                      have HC49 := Aside0.mk H
                      clear H
                      obtain ⟨Ao50, co50, eo50⟩ := Kd.S_slice HO_8.out
                      subst eo50
                      go_upto_region 23 with (first | ((with_reducible refine gate_callee (f := 32) rfl ?_); refine goesL_ (some 65) rfl rfl Try.func32 (by kernel_rfl) rfl #[.slice Ao50 t174.length co50, .int .i64 1] rfl (by (try simp only [List.map_toArray, List.map_cons, List.map_nil]); first | done | rfl | (simp only [List.length_drop, List.length_take]; rfl)) ?_; (with_reducible refine (laws_markRuleS.calls kj27 (fun k_ => B_ ≤ k_) (.slice Ao50 t174.length co50) t174 1 t186 t174m w _ ?side1 ?side2 A42.out).mono ?_); (case side1 => repeat (first | (with_reducible first | exact HB.out | apply below_alloc | apply pw_below_drewN | apply below_drew1) | exact HB.out)); (case side2 => exact Kd.S_mono HO_8.out (fun k_ hk_ => by (revert hk_; (try simp only [and_imp]); intros; (repeat' (first | assumption | exact trivial | apply And.intro))))); rintro e w' ⟨rfl, hy0, hb, hkp⟩; refine ⟨_, rfl, ?_⟩; have n0_ := Aside0.mk (Kd.S_mono (ok' := fun _ => True) (Kd.S_keptB (HO_5.out) hkp (fun k_ hk_ hs_ => Nat.not_le.2 (by (revert hk_; (try simp only [and_imp]); intros; (repeat' (first | assumption | exact trivial | apply And.intro))) : k_ < B_) hs_)) (fun _ _ => trivial)); have n1_ := Aside0.mk hy0; have n2_ := Aside0.mk hb; clear HO_5; clear HO_8; clear HB; have HO_5 := n0_; have HO_8 := n1_; have HB := n2_; clear n0_ n1_ n2_; (try clear hb); (try clear hkp); (try clear hy0)) | ((with_reducible refine gate_callee (f := 33) rfl ?_); refine goesL_ (some 68) rfl rfl Try.func33 (by kernel_rfl) rfl #[.slice Ao50 t174.length co50, .int .i64 1] rfl (by (try simp only [List.map_toArray, List.map_cons, List.map_nil]); first | done | rfl | (simp only [List.length_drop, List.length_take]; rfl)) ?_; (with_reducible refine (held_S kj27 _ _ _ t174m 1 t187 _ ?side1 A43.out).mono ?_); (case side1 => first | exact ⟨_, _, HO_8.out⟩ | exact ⟨_, _, Kd.S_drew HO_8.out⟩ | exact ⟨_, _, Kd.S_drewN HO_8.out _⟩); rintro e w' ⟨rfl, ⟨nd, rfl⟩⟩; refine ⟨_, rfl, ?_⟩) | ((with_reducible refine gate_callee (f := 29) rfl ?_); refine goesL_ (some 76) rfl rfl Try.func29 (by kernel_rfl) rfl #[.slice A0 l0.length c0] rfl (by (try simp only [List.map_toArray, List.map_cons, List.map_nil]); first | done | rfl | (simp only [List.length_drop, List.length_take]; rfl)) ?_; (with_reducible refine (laws_toIntS.calls kj27 _ _ l0 t188 _ ?side1 ?side2 A47.out).mono ?_); (case side1 => repeat (first | exact (Kd.C_below HR0.out (by repeat (first | (with_reducible first | exact HB.out | apply below_alloc | apply pw_below_drewN | apply below_drew1) | exact HB.out))) | (with_reducible refine Kd.C_alloc ?_ _) | (with_reducible refine Kd.C_drewN ?_ _) | (with_reducible refine Kd.C_drew ?_))); (case side2 => exact HC0.out); rintro e w51 ⟨v189, rfl, ho0, hb⟩; refine ⟨_, rfl, ?_⟩; have n0_ := Aside0.mk (Kd.S_elder' (by (with_reducible repeat (first | apply Kd.S_alloc | apply Kd.S_drewN | apply Kd.S_drew)); exact HO_5.out) (Kd.R_base ho0) hb); have n1_ := Aside0.mk (Kd.S_elder' (by (with_reducible repeat (first | apply Kd.S_alloc | apply Kd.S_drewN | apply Kd.S_drew)); exact HO_8.out) (Kd.R_base ho0) hb); have n2_ := Aside0.mk (Kd.R_lower ho0 (below_size (by repeat (first | (with_reducible first | exact HB.out | apply below_alloc | apply pw_below_drewN | apply below_drew1) | exact HB.out)))); have n3_ := Aside0.mk (below_step (by repeat (first | (with_reducible first | exact HB.out | apply below_alloc | apply pw_below_drewN | apply below_drew1) | exact HB.out)) hb); clear HO_5; clear HO_8; clear HB; have HO_5 := n0_; have HO_8 := n1_; have HO190 := n2_; have HB := n3_; clear n0_ n1_ n2_ n3_; (try clear hb); (try clear hb2); (try clear hk); (try clear hi); (try clear ho0); obtain ⟨Ao52, co52, eo52⟩ := Kd.R_slice HO190.out; subst eo52) | ((with_reducible refine gate_callee (f := 30) rfl ?_); refine goesL_ (some 78) rfl rfl Try.func30 (by kernel_rfl) rfl #[.slice Ao52 t188.length co52, .int .i64 a1] rfl (by (try simp only [List.map_toArray, List.map_cons, List.map_nil]); first | done | rfl | (simp only [List.length_drop, List.length_take]; rfl)) ?_; (with_reducible refine (impl_RegionRules.calls kj27 _ _ t188 a1 t191 t192 _ ?side1 ?side2 A48.out).mono ?_); (case side1 => repeat (first | exact (Kd.R_reads' HO190.out).2.2 | (with_reducible refine Kd.C_alloc ?_ _) | (with_reducible refine Kd.C_drewN ?_ _) | (with_reducible refine Kd.C_drew ?_))); (case side2 => exact (Kd.R_reads' HO190.out).2.1); rintro e w53 ⟨v193, rfl, ho0, hb⟩; refine ⟨_, rfl, ?_⟩; have n0_ := Aside0.mk (Kd.S_elder' (by (with_reducible repeat (first | apply Kd.S_alloc | apply Kd.S_drewN | apply Kd.S_drew)); exact HO_5.out) (Kd.S_base ho0) hb); have n1_ := Aside0.mk (Kd.S_elder' (by (with_reducible repeat (first | apply Kd.S_alloc | apply Kd.S_drewN | apply Kd.S_drew)); exact HO_8.out) (Kd.S_base ho0) hb); have n2_ := Aside0.mk (Kd.R_below (by (with_reducible repeat (first | apply Kd.R_alloc | apply Kd.R_drewN | apply Kd.R_drew)); exact HO190.out) hb); have n3_ := Aside0.mk (Kd.S_lower (Kd.S_new' (Kd.S_new' (Kd.S_new' ho0 (Kd.S_lt (by (with_reducible repeat (first | apply Kd.S_alloc | apply Kd.S_drewN | apply Kd.S_drew)); exact HO_5.out))) (Kd.S_lt (by (with_reducible repeat (first | apply Kd.S_alloc | apply Kd.S_drewN | apply Kd.S_drew)); exact HO_8.out))) (Kd.R_lt (by (with_reducible repeat (first | apply Kd.R_alloc | apply Kd.R_drewN | apply Kd.R_drew)); exact HO190.out))) (below_size (by repeat (first | (with_reducible first | exact HB.out | apply below_alloc | apply pw_below_drewN | apply below_drew1) | exact HB.out)))); have n4_ := Aside0.mk (below_step (by repeat (first | (with_reducible first | exact HB.out | apply below_alloc | apply pw_below_drewN | apply below_drew1) | exact HB.out)) hb); clear HO_5; clear HO_8; clear HO190; clear HB; have HO_5 := n0_; have HO_8 := n1_; have HO190 := n2_; have HO194 := n3_; have HB := n4_; clear n0_ n1_ n2_ n3_ n4_; (try clear hb); (try clear hb2); (try clear hk); (try clear hi); (try clear ho0)))
                      (try simp only [Act.put, List.setIfInBounds_toArray, List.set_cons_zero, List.set_cons_succ])
                      go_cut [89] (fun v89 wc => ∃ (kq : Nat) (x89_48 : Bool), v89 = .bool x89_48 ∧ Aside0 (laws_FnExactRegionRules.j2 kq t174m t186 x89_48 = some r) ∧ Aside0 (kq ≤ kj27) ∧ Aside0 (Kd.S k61 61 wc w.heap.size (fun _ => True) (.slice Ao50 t174.length co50) t174m) ∧ Aside0 (Below w.heap.size w wc))
                      case first =>
                        have H := HC49.out
                        clear HC49
                        replace H := Option.bind_eq_some_iff.mp H
                        obtain ⟨t195, A540, H⟩ := H
                        replace H : (if t195 = true then (laws_FnExactRegionRules.j2 kj27 t174m t186 (t192 != t168)) else (laws_FnExactRegionRules.j2 kj27 t174m t186 true)) = some r := H
                        have A54 := Aside0.mk A540
                        clear A540
                        by_cases c55 : t195 = true
                        · subst c55
                          have H1 : (laws_FnExactRegionRules.j2 kj27 t174m t186 (t192 != t168)) = some r := by rw [if_pos rfl] at H; exact H
                          clear H
                          have H := H1
                          clear H1
                          have H' := Aside0.mk H
                          clear H
                          have HO_8n := HO_8; clear HO_8; (try clear HO_8); have HO_8 := HO_8n; clear HO_8n
                          obtain ⟨Ao56, co56, eo56⟩ := Kd.S_slice HO194.out
                          subst eo56
                          obtain ⟨Ao57, co57, eo57⟩ := Kd.S_slice HO_5.out
                          subst eo57
                          go_wp2_with (first | ((with_reducible refine gate_callee (f := 31) rfl ?_); refine goesL_ (some 83) rfl rfl Try.func31 (by kernel_rfl) rfl #[.slice Ao56 t191.length co56, .slice Ao57 t167.length co57] rfl (by (try simp only [List.map_toArray, List.map_cons, List.map_nil]); first | done | rfl | (simp only [List.length_drop, List.length_take]; rfl)) ?_; (with_reducible refine (laws_eqRuleS.calls kj27 _ _ t191 _ _ t167 true _ ?side1 ?side2 ?side3 ?side4 A54.out).mono ?_); (case side1 => repeat (first | exact (Kd.S_reads' HO194.out).2.2 | (with_reducible refine Kd.C_alloc ?_ _) | (with_reducible refine Kd.C_drewN ?_ _) | (with_reducible refine Kd.C_drew ?_))); (case side2 => exact (Kd.S_reads' HO194.out).2.1); (case side3 => repeat (first | exact (Kd.S_reads' HO_5.out).2.2 | (with_reducible refine Kd.C_alloc ?_ _) | (with_reducible refine Kd.C_drewN ?_ _) | (with_reducible refine Kd.C_drew ?_))); (case side4 => exact (Kd.S_reads' HO_5.out).2.1); rintro e w58 ⟨rfl, hb⟩; refine ⟨_, rfl, ?_⟩; have n0_ := Aside0.mk (Kd.S_below (by (with_reducible repeat (first | apply Kd.S_alloc | apply Kd.S_drewN | apply Kd.S_drew)); exact HO_5.out) hb); have n1_ := Aside0.mk (Kd.S_below (by (with_reducible repeat (first | apply Kd.S_alloc | apply Kd.S_drewN | apply Kd.S_drew)); exact HO_8.out) hb); have n2_ := Aside0.mk (Kd.R_below (by (with_reducible repeat (first | apply Kd.R_alloc | apply Kd.R_drewN | apply Kd.R_drew)); exact HO190.out) hb); have n3_ := Aside0.mk (Kd.S_below (by (with_reducible repeat (first | apply Kd.S_alloc | apply Kd.S_drewN | apply Kd.S_drew)); exact HO194.out) hb); have n4_ := Aside0.mk (below_step (by repeat (first | (with_reducible first | exact HB.out | apply below_alloc | apply pw_below_drewN | apply below_drew1) | exact HB.out)) hb); clear HO_5; clear HO_8; clear HO190; clear HO194; clear HB; have HO_5 := n0_; have HO_8 := n1_; have HO190 := n2_; have HO194 := n3_; have HB := n4_; clear n0_ n1_ n2_ n3_ n4_; (try clear hb); (try clear hb2); (try clear hk); (try clear hi)))
                          go_meet
                          case rel => exact ⟨_, ((t192 != t168)), (by first | rfl | (simp; done) | (simp [*]; done)), H', ⟨by have := HJ7.out; have := HJ27.out; first | omega | exact Nat.le_refl _⟩, ⟨by (with_reducible repeat (first | apply Kd.S_alloc | apply Kd.S_drewN | apply Kd.S_drew)); exact Kd.S_mono HO_8.out (fun _ hk => trivial)⟩, ⟨by repeat (first | (with_reducible first | exact HB.out | apply below_alloc | apply pw_below_drewN | apply below_drew1) | exact HB.out)⟩⟩
                        · replace c55 := Bool.eq_false_iff.mpr c55
                          subst c55
                          have H1 : (laws_FnExactRegionRules.j2 kj27 t174m t186 true) = some r := by rw [if_neg (show ¬ (false = true) by decide)] at H; exact H
                          clear H
                          have H := H1
                          clear H1
                          have H' := Aside0.mk H
                          clear H
                          have HO_8n := HO_8; clear HO_8; (try clear HO_8); have HO_8 := HO_8n; clear HO_8n
                          obtain ⟨Ao59, co59, eo59⟩ := Kd.S_slice HO194.out
                          subst eo59
                          obtain ⟨Ao60, co60, eo60⟩ := Kd.S_slice HO_5.out
                          subst eo60
                          go_wp2_with (first | ((with_reducible refine gate_callee (f := 31) rfl ?_); refine goesL_ (some 83) rfl rfl Try.func31 (by kernel_rfl) rfl #[.slice Ao59 t191.length co59, .slice Ao60 t167.length co60] rfl (by (try simp only [List.map_toArray, List.map_cons, List.map_nil]); first | done | rfl | (simp only [List.length_drop, List.length_take]; rfl)) ?_; (with_reducible refine (laws_eqRuleS.calls kj27 _ _ t191 _ _ t167 false _ ?side1 ?side2 ?side3 ?side4 A54.out).mono ?_); (case side1 => repeat (first | exact (Kd.S_reads' HO194.out).2.2 | (with_reducible refine Kd.C_alloc ?_ _) | (with_reducible refine Kd.C_drewN ?_ _) | (with_reducible refine Kd.C_drew ?_))); (case side2 => exact (Kd.S_reads' HO194.out).2.1); (case side3 => repeat (first | exact (Kd.S_reads' HO_5.out).2.2 | (with_reducible refine Kd.C_alloc ?_ _) | (with_reducible refine Kd.C_drewN ?_ _) | (with_reducible refine Kd.C_drew ?_))); (case side4 => exact (Kd.S_reads' HO_5.out).2.1); rintro e w61 ⟨rfl, hb⟩; refine ⟨_, rfl, ?_⟩; have n0_ := Aside0.mk (Kd.S_below (by (with_reducible repeat (first | apply Kd.S_alloc | apply Kd.S_drewN | apply Kd.S_drew)); exact HO_5.out) hb); have n1_ := Aside0.mk (Kd.S_below (by (with_reducible repeat (first | apply Kd.S_alloc | apply Kd.S_drewN | apply Kd.S_drew)); exact HO_8.out) hb); have n2_ := Aside0.mk (Kd.R_below (by (with_reducible repeat (first | apply Kd.R_alloc | apply Kd.R_drewN | apply Kd.R_drew)); exact HO190.out) hb); have n3_ := Aside0.mk (Kd.S_below (by (with_reducible repeat (first | apply Kd.S_alloc | apply Kd.S_drewN | apply Kd.S_drew)); exact HO194.out) hb); have n4_ := Aside0.mk (below_step (by repeat (first | (with_reducible first | exact HB.out | apply below_alloc | apply pw_below_drewN | apply below_drew1) | exact HB.out)) hb); clear HO_5; clear HO_8; clear HO190; clear HO194; clear HB; have HO_5 := n0_; have HO_8 := n1_; have HO190 := n2_; have HO194 := n3_; have HB := n4_; clear n0_ n1_ n2_ n3_ n4_; (try clear hb); (try clear hb2); (try clear hk); (try clear hi)))
                          go_meet
                          case rel => exact ⟨_, (true), (by first | rfl | (simp; done) | (simp [*]; done)), H', ⟨by have := HJ7.out; have := HJ27.out; first | omega | exact Nat.le_refl _⟩, ⟨by (with_reducible repeat (first | apply Kd.S_alloc | apply Kd.S_drewN | apply Kd.S_drew)); exact Kd.S_mono HO_8.out (fun _ hk => trivial)⟩, ⟨by repeat (first | (with_reducible first | exact HB.out | apply below_alloc | apply pw_below_drewN | apply below_drew1) | exact HB.out)⟩⟩
                      case rest =>
                        clear HC49
                        try clear c1
                        try clear c2
                        try clear p2
                        try clear c3
                        try clear c3b0
                        try clear c3b1
                        try clear c4
                        try clear c5
                        try clear c6
                        try clear c16
                        try clear c22
                        try clear c23
                        try clear c26
                        try clear c28
                        try clear c29
                        try clear c30
                        try clear c31
                        try clear c32
                        try clear c32b0
                        try clear c33
                        try clear c34
                        try clear c41
                        try clear c44
                        try clear c44b0
                        try clear c46
                        try clear c46b0
                        try clear c46b1
                        try clear c55
                        try clear p2
                        obtain ⟨kq, x89_48, rfl, HA, HJ48, HO_8, HB⟩ := hcut
                        cases kq with
                        | zero => exact absurd HA.out (by simp [laws_FnExactRegionRules.j2])
                        | succ kj48 =>
                          have H := HA.out
                          clear HA
                          simp only [laws_FnExactRegionRules.j2] at H
                          by_cases c62 : x89_48 = true
                          · subst c62
                            have H1 : (some false) = some r := by rw [if_pos rfl] at H; exact H
                            clear H
                            have H := H1
                            clear H1
                            obtain rfl := Option.some.inj H
                            go_wp2
                            go_ret
                            exact ⟨by first | rfl | (simp [errW_none, errW_some] <;> rfl) | (simp [*, errW_none, errW_some] <;> rfl), by repeat (first | (with_reducible first | exact HB.out | apply below_alloc | apply pw_below_drewN | apply below_drew1) | exact HB.out)⟩
                          · replace c62 := Bool.eq_false_iff.mpr c62
                            subst c62
                            have H1 : ((laws_heldRuleS.f kj48 t174m 1).bind fun t196 => (if t196 < 0 then (some false) else (if t196 = t186 then (some true) else (some false)))) = some r := by rw [if_neg (show ¬ (false = true) by decide)] at H; exact H
                            clear H
                            have H := H1
                            clear H1
                            replace H := Option.bind_eq_some_iff.mp H
                            obtain ⟨t196, A630, H⟩ := H
                            replace H : (if t196 < 0 then (some false) else (if t196 = t186 then (some true) else (some false))) = some r := H
                            have A63 := Aside0.mk A630
                            clear A630
                            by_cases c64 : t196 < 0
                            · rw [if_pos c64] at H
                              have c64b0 : decide (t196 < 0) = true := decide_eq_true c64
                              clear c64
                              obtain rfl := Option.some.inj H
                              go_wp2_with (first | ((with_reducible refine gate_callee (f := 33) rfl ?_); refine goesL_ (some 92) rfl rfl Try.func33 (by kernel_rfl) rfl #[.slice Ao50 t174.length co50, .int .i64 1] rfl (by (try simp only [List.map_toArray, List.map_cons, List.map_nil]); first | done | rfl | (simp only [List.length_drop, List.length_take]; rfl)) ?_; (with_reducible refine (held_S kj48 _ _ _ t174m 1 t196 _ ?side1 A63.out).mono ?_); (case side1 => first | exact ⟨_, _, HO_8.out⟩ | exact ⟨_, _, Kd.S_drew HO_8.out⟩ | exact ⟨_, _, Kd.S_drewN HO_8.out _⟩); rintro e w' ⟨rfl, ⟨nd, rfl⟩⟩; refine ⟨_, rfl, ?_⟩))
                              go_ret
                              exact ⟨by first | rfl | (simp [errW_none, errW_some] <;> rfl) | (simp [*, errW_none, errW_some] <;> rfl), by repeat (first | (with_reducible first | exact HB.out | apply below_alloc | apply pw_below_drewN | apply below_drew1) | exact HB.out)⟩
                            · rw [if_neg c64] at H
                              have c64b0 : decide (t196 < 0) = false := decide_eq_false c64
                              clear c64
                              by_cases c65 : t196 = t186
                              · rw [if_pos c65] at H
                                have c65b0 : (t196 == t186) = true := beq_iff_eq.mpr c65
                                have c65b1 : (t196 != t186) = false := bne_eq_false_iff_eq.mpr c65
                                clear c65
                                obtain rfl := Option.some.inj H
                                go_wp2_with (first | ((with_reducible refine gate_callee (f := 33) rfl ?_); refine goesL_ (some 92) rfl rfl Try.func33 (by kernel_rfl) rfl #[.slice Ao50 t174.length co50, .int .i64 1] rfl (by (try simp only [List.map_toArray, List.map_cons, List.map_nil]); first | done | rfl | (simp only [List.length_drop, List.length_take]; rfl)) ?_; (with_reducible refine (held_S kj48 _ _ _ t174m 1 t196 _ ?side1 A63.out).mono ?_); (case side1 => first | exact ⟨_, _, HO_8.out⟩ | exact ⟨_, _, Kd.S_drew HO_8.out⟩ | exact ⟨_, _, Kd.S_drewN HO_8.out _⟩); rintro e w' ⟨rfl, ⟨nd, rfl⟩⟩; refine ⟨_, rfl, ?_⟩))
                                go_ret
                                exact ⟨by first | rfl | (simp [errW_none, errW_some] <;> rfl) | (simp [*, errW_none, errW_some] <;> rfl), by repeat (first | (with_reducible first | exact HB.out | apply below_alloc | apply pw_below_drewN | apply below_drew1) | exact HB.out)⟩
                              · rw [if_neg c65] at H
                                have c65b0 : (t196 == t186) = false := beq_eq_false_iff_ne.mpr c65
                                have c65b1 : (t196 != t186) = true := bne_iff_ne.mpr c65
                                obtain rfl := Option.some.inj H
                                go_wp2_with (first | ((with_reducible refine gate_callee (f := 33) rfl ?_); refine goesL_ (some 92) rfl rfl Try.func33 (by kernel_rfl) rfl #[.slice Ao50 t174.length co50, .int .i64 1] rfl (by (try simp only [List.map_toArray, List.map_cons, List.map_nil]); first | done | rfl | (simp only [List.length_drop, List.length_take]; rfl)) ?_; (with_reducible refine (held_S kj48 _ _ _ t174m 1 t196 _ ?side1 A63.out).mono ?_); (case side1 => first | exact ⟨_, _, HO_8.out⟩ | exact ⟨_, _, Kd.S_drew HO_8.out⟩ | exact ⟨_, _, Kd.S_drewN HO_8.out _⟩); rintro e w' ⟨rfl, ⟨nd, rfl⟩⟩; refine ⟨_, rfl, ?_⟩))
                                go_ret
                                exact ⟨by first | rfl | (simp [errW_none, errW_some] <;> rfl) | (simp [*, errW_none, errW_some] <;> rfl), by repeat (first | (with_reducible first | exact HB.out | apply below_alloc | apply pw_below_drewN | apply below_drew1) | exact HB.out)⟩
                    · rw [if_neg c46] at H
                      have c46b0 : (t187 == t186) = false := beq_eq_false_iff_ne.mpr c46
                      have c46b1 : (t187 != t186) = true := bne_iff_ne.mpr c46
                      obtain rfl := Option.some.inj H
                      obtain ⟨Ao66, co66, eo66⟩ := Kd.S_slice HO_8.out
                      subst eo66
                      go_wp2_with (first | ((with_reducible refine gate_callee (f := 32) rfl ?_); refine goesL_ (some 65) rfl rfl Try.func32 (by kernel_rfl) rfl #[.slice Ao66 t174.length co66, .int .i64 1] rfl (by (try simp only [List.map_toArray, List.map_cons, List.map_nil]); first | done | rfl | (simp only [List.length_drop, List.length_take]; rfl)) ?_; (with_reducible refine (laws_markRuleS.calls kj27 (fun k_ => B_ ≤ k_) (.slice Ao66 t174.length co66) t174 1 t186 t174m w _ ?side1 ?side2 A42.out).mono ?_); (case side1 => repeat (first | (with_reducible first | exact HB.out | apply below_alloc | apply pw_below_drewN | apply below_drew1) | exact HB.out)); (case side2 => exact Kd.S_mono HO_8.out (fun k_ hk_ => by (revert hk_; (try simp only [and_imp]); intros; (repeat' (first | assumption | exact trivial | apply And.intro))))); rintro e w' ⟨rfl, hy0, hb, hkp⟩; refine ⟨_, rfl, ?_⟩; have n0_ := Aside0.mk (Kd.S_mono (ok' := fun _ => True) (Kd.S_keptB (HO_5.out) hkp (fun k_ hk_ hs_ => Nat.not_le.2 (by (revert hk_; (try simp only [and_imp]); intros; (repeat' (first | assumption | exact trivial | apply And.intro))) : k_ < B_) hs_)) (fun _ _ => trivial)); have n1_ := Aside0.mk hy0; have n2_ := Aside0.mk hb; clear HO_5; clear HO_8; clear HB; have HO_5 := n0_; have HO_8 := n1_; have HB := n2_; clear n0_ n1_ n2_; (try clear hb); (try clear hkp); (try clear hy0)) | ((with_reducible refine gate_callee (f := 33) rfl ?_); refine goesL_ (some 68) rfl rfl Try.func33 (by kernel_rfl) rfl #[.slice Ao66 t174.length co66, .int .i64 1] rfl (by (try simp only [List.map_toArray, List.map_cons, List.map_nil]); first | done | rfl | (simp only [List.length_drop, List.length_take]; rfl)) ?_; (with_reducible refine (held_S kj27 _ _ _ t174m 1 t187 _ ?side1 A43.out).mono ?_); (case side1 => first | exact ⟨_, _, HO_8.out⟩ | exact ⟨_, _, Kd.S_drew HO_8.out⟩ | exact ⟨_, _, Kd.S_drewN HO_8.out _⟩); rintro e w' ⟨rfl, ⟨nd, rfl⟩⟩; refine ⟨_, rfl, ?_⟩))
                      go_ret
                      exact ⟨by first | rfl | (simp [errW_none, errW_some] <;> rfl) | (simp [*, errW_none, errW_some] <;> rfl), by repeat (first | (with_reducible first | exact HB.out | apply below_alloc | apply pw_below_drewN | apply below_drew1) | exact HB.out)⟩
          · replace c26 := Bool.eq_false_iff.mpr c26
            subst c26
            have H1 : (some false) = some r := by rw [if_neg (show ¬ (false = true) by decide)] at H; exact H
            clear H
            have H := H1
            clear H1
            obtain rfl := Option.some.inj H
            go_wp2_with (first | ((with_reducible refine gate_callee (f := 29) rfl ?_); refine goesL_ (some 44) rfl rfl Try.func29 (by kernel_rfl) rfl #[.slice A0 l0.length c0] rfl (by (try simp only [List.map_toArray, List.map_cons, List.map_nil]); first | done | rfl | (simp only [List.length_drop, List.length_take]; rfl)) ?_; (with_reducible refine (laws_toIntS.calls kj7 _ _ l0 t179 _ ?side1 ?side2 A24.out).mono ?_); (case side1 => repeat (first | exact (Kd.C_below HR0.out HB.out) | (with_reducible refine Kd.C_alloc ?_ _) | (with_reducible refine Kd.C_drewN ?_ _) | (with_reducible refine Kd.C_drew ?_))); (case side2 => exact HC0.out); rintro e w67 ⟨v180, rfl, ho0, hb⟩; refine ⟨_, rfl, ?_⟩; have n0_ := Aside0.mk (Kd.S_elder' (by (with_reducible repeat (first | apply Kd.S_alloc | apply Kd.S_drewN | apply Kd.S_drew)); exact HO_5.out) (Kd.R_base ho0) hb); have n1_ := Aside0.mk (Kd.R_elder' (by (with_reducible repeat (first | apply Kd.R_alloc | apply Kd.R_drewN | apply Kd.R_drew)); exact HO_7.out) (Kd.R_base ho0) hb); have n2_ := Aside0.mk (Kd.S_elder' (by (with_reducible repeat (first | apply Kd.S_alloc | apply Kd.S_drewN | apply Kd.S_drew)); exact HO_8.out) (Kd.R_base ho0) hb); have n3_ := Aside0.mk (Kd.R_lower (Kd.R_new' ho0 (Kd.R_lt (by (with_reducible repeat (first | apply Kd.R_alloc | apply Kd.R_drewN | apply Kd.R_drew)); exact HO_7.out))) (below_size (by repeat (first | (with_reducible first | exact HB.out | apply below_alloc | apply pw_below_drewN | apply below_drew1) | exact HB.out)))); have n4_ := Aside0.mk (below_step (by repeat (first | (with_reducible first | exact HB.out | apply below_alloc | apply pw_below_drewN | apply below_drew1) | exact HB.out)) hb); clear HO_5; clear HO_7; clear HO_8; clear HB; have HO_5 := n0_; have HO_7 := n1_; have HO_8 := n2_; have HO181 := n3_; have HB := n4_; clear n0_ n1_ n2_ n3_ n4_; (try clear hb); (try clear hb2); (try clear hk); (try clear hi); (try clear ho0); obtain ⟨Ao68, co68, eo68⟩ := Kd.R_slice HO181.out; subst eo68) | ((with_reducible refine gate_callee (f := 22) rfl ?_); refine goesL_ (some 45) rfl rfl Try.func22 (by kernel_rfl) rfl #[.slice Ao13 t171.length co13, .slice Ao68 t179.length co68] rfl (by (try simp only [List.map_toArray, List.map_cons, List.map_nil]); first | done | rfl | (simp only [List.length_drop, List.length_take]; rfl)) ?_; (with_reducible refine (laws_eqIntS.calls kj7 _ _ t171 _ _ t179 false _ ?side1 ?side2 ?side3 ?side4 A25.out).mono ?_); (case side1 => repeat (first | exact (Kd.R_reads' HO_7.out).2.2 | (with_reducible refine Kd.C_alloc ?_ _) | (with_reducible refine Kd.C_drewN ?_ _) | (with_reducible refine Kd.C_drew ?_))); (case side2 => exact (Kd.R_reads' HO_7.out).2.1); (case side3 => repeat (first | exact (Kd.R_reads' HO181.out).2.2 | (with_reducible refine Kd.C_alloc ?_ _) | (with_reducible refine Kd.C_drewN ?_ _) | (with_reducible refine Kd.C_drew ?_))); (case side4 => exact (Kd.R_reads' HO181.out).2.1); rintro e w' ⟨rfl, ⟨nd, rfl⟩⟩; refine ⟨_, rfl, ?_⟩))
            go_ret
            exact ⟨by first | rfl | (simp [errW_none, errW_some] <;> rfl) | (simp [*, errW_none, errW_some] <;> rfl), by repeat (first | (with_reducible first | exact HB.out | apply below_alloc | apply pw_below_drewN | apply below_drew1) | exact HB.out)⟩

/-- THE ONE PURE STATEMENT of laws_FnExactRegionRules: yours. -/
def laws_FnExactRegionRules.Pure : Prop := ∀ (l0 : List Int) (a1 : Int), l0.length ≤ maxLen → l0.length * 8 ≤ 140737488351232 → (∀ x ∈ l0, (Lit.int .i64 x).wf = true) → (Lit.int .i64 a1).wf = true → ∃ k, laws_FnExactRegionRules.f k l0 a1 = some true
theorem laws_FnExactRegionRules.walk (P : laws_FnExactRegionRules.Pure) (a0 : Option Addr) (len0 cap0 : Nat) (z0 : List Int) (a1 : Int) (w : World) (w0 : (a0 = none ∧ len0 = 0 ∧ cap0 = 0 ∧ z0 = []) ∨ ∃ x, a0 = some x ∧ len0 ≤ cap0 ∧ cap0 ≤ maxLen ∧ z0.length = cap0 ∧ (∀ i, i < z0.length → w.cell? (x.add i) = some (.int .i64 (z0.getD i 0))) ∧ ∀ n ∈ z0, (Lit.int .i64 n).wf = true) (y0 : len0 * 8 ≤ 140737488351232) (w1 : (Lit.int .i64 a1).wf = true) :
    Calls Try.prog 6 #[.slice a0 len0 cap0, .int .i64 a1] w fun e w' => e = .returned (.bool true) ∧ Below w.heap.size w w' := by
  obtain ⟨l0, rfl, hr0, hm0, hw0, hc0⟩ := ReadsInt.ofRowC w0
  obtain ⟨k, h⟩ := P l0 a1 hm0 y0 hw0 w1
  refine (laws_FnExactRegionRules.calls k _ _ l0 a1 true w (Kd.C_of_reads (d := (0 : Int)) (h1 := fun _ => rfl) hr0) hc0 h).mono ?_
  rintro e w' ⟨rfl, hd⟩
  exact ⟨rfl, hd⟩

end Go.Proofs.Ytncmneliinbjdaa.PRu
