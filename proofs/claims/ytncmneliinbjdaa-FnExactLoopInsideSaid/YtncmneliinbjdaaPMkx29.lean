/- Functions of the program, and what a call comes to. No conditions. -/
import Derived.Test.YtncmneliinbjdaaPMkx0
import Derived.Test.YtncmneliinbjdaaPMkx28
namespace Go.Proofs.Ytncmneliinbjdaa.PMk
open Go.RowKit Go.Proofs.YtncmneliinbjdaaW.PrintWords Go.Proofs.YtncmneliinbjdaaW.PrintLast Go.Proofs.YtncmneliinbjdaaW.PrintMore
set_option linter.unusedVariables false
set_option linter.unusedSimpArgs false

/-! ### impl_LoopInside: function 26 -/
mutual
def impl_LoopInside.l0 : Nat → List Bool → Int → Int → Int → Int → List (List Bool) → List (List Bool) → Option (List Bool)
 | 0, _, _, _, _, _, _, _ => none
 | k + 1, x3, x12, x13, x336000, x336001, x336002, x336003 => if x13 < x12 then (impl_LoopInside.l1 k x3 x13 false x12 x13 x336001 0 x336000 x336001 x336002 x336003) else (some x3)
def impl_LoopInside.l1 : Nat → List Bool → Int → Bool → Int → Int → Int → Int → Int → Int → List (List Bool) → List (List Bool) → Option (List Bool)
 | 0, _, _, _, _, _, _, _, _, _, _, _ => none
 | k + 1, x3, x4, x5, x12, x13, x17, x18, x336000, x336001, x336002, x336003 => if x18 < x17 then (if 0 ≤ x18 then (if x18 < (x336003.length : Int) then (if 0 ≤ x4 then (if x4 < ((rd_L1 x336003 x18).length : Int) then (if x3.length < 140737488355328 then (impl_LoopInside.l1 k (x3 ++ [(x5 != (rdOf false (rd_L1 x336003 x18) x4))]) x4 (x5 != (rdOf false (rd_L1 x336003 x18) x4)) x12 x13 x17 (wrap64 (x18 + 1)) x336000 x336001 x336002 x336003) else (none)) else (none)) else (none)) else (none)) else (none)) else (impl_LoopInside.l0 k x3 x12 (wrap64 (x13 + 1)) x336000 x336001 x336002 x336003)
end
def impl_LoopInside.f (k : Nat) (a0_0 : Int) (a0_1 : Int) (l0_2 : List (List Bool)) (l0_3 : List (List Bool)) : Option (List Bool) := (impl_LoopClosed.f k a0_0 a0_1 l0_2 l0_3).bind fun t336 => (if t336 = true then (impl_LoopInside.l0 k (([] : List Bool)) a0_0 0 a0_0 a0_1 l0_2 l0_3) else (some ([] : List Bool)))
theorem impl_LoopInside.mono_l : ∀ k, (∀ y0 y1 y2 y3 y4 y5 y6, LeO (impl_LoopInside.l0 k y0 y1 y2 y3 y4 y5 y6) (impl_LoopInside.l0 (k + 1) y0 y1 y2 y3 y4 y5 y6)) ∧ (∀ y0 y1 y2 y3 y4 y5 y6 y7 y8 y9 y10, LeO (impl_LoopInside.l1 k y0 y1 y2 y3 y4 y5 y6 y7 y8 y9 y10) (impl_LoopInside.l1 (k + 1) y0 y1 y2 y3 y4 y5 y6 y7 y8 y9 y10))
 | 0 => ⟨fun _ _ _ _ _ _ _ r h => by simp [impl_LoopInside.l0] at h, fun _ _ _ _ _ _ _ _ _ _ _ r h => by simp [impl_LoopInside.l1] at h⟩
 | k + 1 => by
  obtain ⟨ih0, ih1⟩ := impl_LoopInside.mono_l k
  refine ⟨?_, ?_⟩
  ·intro y0 y1 y2 y3 y4 y5 y6
   unfold impl_LoopInside.l0
   repeat' first | (with_reducible first | exact ih0 _ _ _ _ _ _ _ | exact ih1 _ _ _ _ _ _ _ _ _ _ _ | exact impl_LoopClosed.mono _ _ _ _ _ | exact LeO.refl _ | exact LeO.none _ | refine LeO.ite ?_ ?_ | refine LeO.bind ?_ (fun _ => ?_)) | exact LeO.none _ | refine LeO.ite ?_ ?_ | refine LeO.bind ?_ (fun _ => ?_)
  ·intro y0 y1 y2 y3 y4 y5 y6 y7 y8 y9 y10
   unfold impl_LoopInside.l1
   repeat' first | (with_reducible first | exact ih0 _ _ _ _ _ _ _ | exact ih1 _ _ _ _ _ _ _ _ _ _ _ | exact impl_LoopClosed.mono _ _ _ _ _ | exact LeO.refl _ | exact LeO.none _ | refine LeO.ite ?_ ?_ | refine LeO.bind ?_ (fun _ => ?_)) | exact LeO.none _ | refine LeO.ite ?_ ?_ | refine LeO.bind ?_ (fun _ => ?_)
theorem impl_LoopInside.mono : ∀ a0 a1 a2 a3 k, LeO (impl_LoopInside.f k a0 a1 a2 a3) (impl_LoopInside.f (k + 1) a0 a1 a2 a3) := by
 intro a0 a1 a2 a3 k
 obtain ⟨ih0, ih1⟩ := impl_LoopInside.mono_l k
 unfold impl_LoopInside.f
 repeat' first | (with_reducible first | exact ih0 _ _ _ _ _ _ _ | exact ih1 _ _ _ _ _ _ _ _ _ _ _ | exact impl_LoopClosed.mono _ _ _ _ _ | exact LeO.refl _ | exact LeO.none _ | refine LeO.ite ?_ ?_ | refine LeO.bind ?_ (fun _ => ?_)) | exact LeO.none _ | refine LeO.ite ?_ ?_ | refine LeO.bind ?_ (fun _ => ?_)
set_option maxHeartbeats 8000000 in
set_option maxRecDepth 100000 in
theorem impl_LoopInside.calls (k : Nat) (a0_0 : Int) (a0_1 : Int) (A0_2 : Option Addr) (c0_2 : Nat) (l0_2 : List (List Bool)) (A0_3 : Option Addr) (c0_3 : Nat) (l0_3 : List (List Bool)) (r : List Bool) (w : World) (hr0_2 : Kd.C (Kd.slice 4 Kd.bool) w A0_2 l0_2.length l0_2) (hc0_2 : l0_2.length ≤ c0_2) (hr0_3 : Kd.C (Kd.slice 4 Kd.bool) w A0_3 l0_3.length l0_3) (hc0_3 : l0_3.length ≤ c0_3) (h : impl_LoopInside.f k a0_0 a0_1 l0_2 l0_3 = some r) :
  Calls Try.prog 26 #[.agg #[.int .i64 a0_0, .int .i64 a0_1, .slice A0_2 l0_2.length c0_2, .slice A0_3 l0_3.length c0_3]] w fun e w' => ∃ v0_ : Value, e = .returned (v0_) ∧ Kd.R Kd.bool 4 w' w.heap.size (fun _ => True) v0_ r ∧ Below w.heap.size w w' := by
 have hu25 := Try.underlying25
 have HR0_2 := asd hr0_2
 have HC0_2 := asd hc0_2
 clear hr0_2 hc0_2
 have HR0_3 := asd hr0_3
 have HC0_3 := asd hc0_3
 clear hr0_3 hc0_3
 have HB := asd (Below.refl w.heap.size w)
 have H : ((impl_LoopClosed.f k a0_0 a0_1 l0_2 l0_3).bind fun t336 => (if t336 = true then (impl_LoopInside.l0 k (([] : List Bool)) a0_0 0 a0_0 a0_1 l0_2 l0_3) else (some ([] : List Bool)))) = some r := h
 clear h
 replace H := Option.bind_eq_some_iff.mp H
 obtain ⟨t336, A20, H⟩ := H
 replace H : (if t336 = true then (impl_LoopInside.l0 k (([] : List Bool)) a0_0 0 a0_0 a0_1 l0_2 l0_3) else (some ([] : List Bool))) = some r := H
 have A2 := asd A20
 clear A20
 by_cases c3 : t336 = true
 ·subst c3
  have H1 : (impl_LoopInside.l0 k (([] : List Bool)) a0_0 0 a0_0 a0_1 l0_2 l0_3) = some r := by rw [if_pos rfl] at H; exact H
  clear H
  have H := H1
  clear H1
  obtain ⟨y337, hy337⟩ : ∃ y_ : List Bool, y_ = (([] : List Bool)) := ⟨_, rfl⟩
  replace H : (impl_LoopInside.l0 k y337 a0_0 0 a0_0 a0_1 l0_2 l0_3) = some r := by first | (rw [hy337]; with_reducible exact H) | (have H2_ := (Option.bind_some _ _).symm.trans H; rw [hy337]; with_reducible exact H2_) | (have H2_ := (Option.bind_some _ _).symm.trans H; with_reducible exact H2_) | with_reducible exact H | (rw [hy337]; exact H) | exact H
  have Ny337 := asd hy337
  clear hy337
  have H' := asd H
  clear H
  go_enter Try.func26, Try.ntmps26
  go_wp2_with (first | ((with_reducible refine gate_dst (N := 1) rfl ?_); refine box_event ?hg (N := 1) ?hd (cs := #[.int .i64 a0_0, .int .i64 a0_1, .slice A0_2 l0_2.length c0_2, .slice A0_3 l0_3.length c0_3]) (t := 25) ?hr ?_; (case hd => rfl); (case hg => rfl); (case hr => first | (go_simp; done) | (go_simp; rfl)); intro gb335 hg w4 hbox hb; have n0_ := asd (below_step (by repeat (first | (with_reducible first | exact HB.out | apply below_alloc | apply pw_below_drewN | apply below_drew1) | exact HB.out)) hb); have n1_ := asd (hbox); have n2_ := asd ((by rw [hg]; exact (below_size (by repeat (first | (with_reducible first | exact HB.out | apply below_alloc | apply pw_below_drewN | apply below_drew1) | exact HB.out))) : w.heap.size ≤ gb335)); have n3_ := asd ((by rw [hg]; exact (below_size (by repeat (first | (with_reducible first | exact HB.out | apply below_alloc | apply pw_below_drewN | apply below_drew1) | exact HB.out))) : w.heap.size ≤ gb335)); clear HB; have HB := n0_; have BK335 := n1_; have GW335 := n2_; have GE335 := n3_; clear n0_ n1_ n2_ n3_ hb hbox hg; have hcz5_0 : w4.cell? ⟨gb335, 0, none⟩ = some (.int .i64 a0_0) := (blk_cell BK335.out 0).trans rfl; have hcz5_1 : w4.cell? ⟨gb335, 1, none⟩ = some (.int .i64 a0_1) := (blk_cell BK335.out 1).trans rfl; have hcz5_2 : w4.cell? ⟨gb335, 2, none⟩ = some (.slice A0_2 l0_2.length c0_2) := (blk_cell BK335.out 2).trans rfl; have hcz5_3 : w4.cell? ⟨gb335, 3, none⟩ = some (.slice A0_3 l0_3.length c0_3) := (blk_cell BK335.out 3).trans rfl; have hfz5_0 := blk_frozen BK335.out 0; have hfz5_1 := blk_frozen BK335.out 1; have hfz5_2 := blk_frozen BK335.out 2; have hfz5_3 := blk_frozen BK335.out 3) | ((with_reducible refine gate_callee (f := 50) rfl ?_); refine goesL_ (some 8) rfl rfl Try.func50 (by kernel_rfl) rfl #[.agg #[.int .i64 a0_0, .int .i64 a0_1, .slice A0_2 l0_2.length c0_2, .slice A0_3 l0_3.length c0_3]] rfl (by (try simp only [List.map_toArray, List.map_cons, List.map_nil]); first | done | rfl | (simp only [List.length_drop, List.length_take]; rfl)) ?_; (with_reducible refine (impl_LoopClosed.calls k a0_0 a0_1 _ _ l0_2 _ _ l0_3 true _ ?side1 ?side2 ?side3 ?side4 A2.out).mono ?_); (case side1 => repeat (first | exact (Kd.C_below HR0_2.out HB.out) | (with_reducible refine Kd.C_alloc ?_ _) | (with_reducible refine Kd.C_drewN ?_ _) | (with_reducible refine Kd.C_drew ?_))); (case side2 => exact HC0_2.out); (case side3 => repeat (first | exact (Kd.C_below HR0_3.out HB.out) | (with_reducible refine Kd.C_alloc ?_ _) | (with_reducible refine Kd.C_drewN ?_ _) | (with_reducible refine Kd.C_drew ?_))); (case side4 => exact HC0_3.out); rintro e w6 ⟨rfl, hb⟩; refine ⟨_, rfl, ?_⟩; have n0_ := asd (blk_below (g := gb335) (o := .cells #[.int .i64 a0_0, .int .i64 a0_1, .slice A0_2 l0_2.length c0_2, .slice A0_3 l0_3.length c0_3] 25 (0, 0)) (by (with_reducible repeat (first | refine blk_drewN ?_ _ | refine blk_drew ?_ | refine blk_alloc ?_ _)); exact BK335.out) hb); have n1_ := asd (below_step (by repeat (first | (with_reducible first | exact HB.out | apply below_alloc | apply pw_below_drewN | apply below_drew1 | refine below_set ?_ GE335.out) | exact HB.out)) hb); clear BK335 HB; have BK335 := n0_; have HB := n1_; clear n0_ n1_) | ((with_reducible refine gate_dst (N := 10) rfl ?_); refine Kd.R_lit Kd.bool _ 4 ?hg (N := 10) ?hd (xs := ([] : List Bool)) (inner := []) (ok := fun _ => True) (okp := fun _ => True) ?hr ?hp (fun _ hk => hk) trivial (Below.refl _ _) (Nat.le_refl _) (by simp) ?_; (case hd => rfl); (case hg => rfl); (case hr => first | (go_simp; done) | (go_simp; rfl)); (case hp => exact (Reps.none _ _)); intro v338 w7 ho8 hb hg_ hnew_; clear hg_ hnew_; (first | rw [← Ny337.out] at ho8 | (simp only [Int.reduceToNat] at ho8; rw [← Ny337.out] at ho8)); have n0_ := asd (Kd.R_lower ho8 (below_size (by repeat (first | (with_reducible first | exact HB.out | apply below_alloc | apply pw_below_drewN | apply below_drew1 | refine below_set ?_ GE335.out) | exact HB.out)))); have n1_ := asd (blk_below (g := gb335) (o := .cells #[.int .i64 a0_0, .int .i64 a0_1, .slice A0_2 l0_2.length c0_2, .slice A0_3 l0_3.length c0_3] 25 (0, 0)) (by (with_reducible repeat (first | refine blk_drewN ?_ _ | refine blk_drew ?_ | refine blk_alloc ?_ _)); exact BK335.out) hb); have n2_ := asd (below_step (by repeat (first | (with_reducible first | exact HB.out | apply below_alloc | apply pw_below_drewN | apply below_drew1 | refine below_set ?_ GE335.out) | exact HB.out)) hb); clear BK335 HB; have HO339 := n0_; have BK335 := n1_; have HB := n2_; clear n0_ n1_ n2_ hb ho8; have hcz9_0 : w7.cell? ⟨gb335, 0, none⟩ = some (.int .i64 a0_0) := (blk_cell BK335.out 0).trans rfl; have hcz9_1 : w7.cell? ⟨gb335, 1, none⟩ = some (.int .i64 a0_1) := (blk_cell BK335.out 1).trans rfl; have hcz9_2 : w7.cell? ⟨gb335, 2, none⟩ = some (.slice A0_2 l0_2.length c0_2) := (blk_cell BK335.out 2).trans rfl; have hcz9_3 : w7.cell? ⟨gb335, 3, none⟩ = some (.slice A0_3 l0_3.length c0_3) := (blk_cell BK335.out 3).trans rfl; have hfz9_0 := blk_frozen BK335.out 0; have hfz9_1 := blk_frozen BK335.out 1; have hfz9_2 := blk_frozen BK335.out 2; have hfz9_3 := blk_frozen BK335.out 3))
  go_loopg [3, 13] k (fun kq v3 v13 w' => ∃ (x3_1 : List Bool) (x13_1 : Int), v13 = .int .i64 x13_1 ∧ Aside0 (impl_LoopInside.l0 kq x3_1 a0_0 x13_1 a0_0 a0_1 l0_2 l0_3 = some r) ∧ Aside0 (kq ≤ k) ∧ Aside0 (Kd.R Kd.bool 4 w' w.heap.size (fun _ => True) v3 x3_1) ∧ Aside0 (w'.heap[gb335]? = some (.cells #[.int .i64 a0_0, .int .i64 a0_1, (.slice A0_2 l0_2.length c0_2), (.slice A0_3 l0_3.length c0_3)] 25 (0, 0))) ∧ Aside0 (Below w.heap.size w w'))
  case atStart => exact ⟨(y337), (0), (by first | rfl | (simp; done) | (simp [*]; done)), H', ⟨Nat.le_refl _⟩, ⟨by (with_reducible repeat (first | apply Kd.R_alloc | apply Kd.R_drewN | apply Kd.R_drew)); exact HO339.out⟩, ⟨by (with_reducible repeat (first | refine blk_drewN ?_ _ | refine blk_drew ?_ | refine blk_alloc ?_ _)); exact BK335.out⟩, ⟨by repeat (first | (with_reducible first | exact HB.out | apply below_alloc | apply pw_below_drewN | apply below_drew1 | refine below_set ?_ GE335.out) | exact HB.out)⟩⟩
  case round =>
   clear H'; try clear c2; try clear p2; try clear c3; try clear c5; try clear hcz5_0; try clear hcz5_1; try clear hcz5_2; try clear hcz5_3; try clear hcz9_0; try clear hcz9_1; try clear hcz9_2; try clear hcz9_3; try clear hfz5_0; try clear hfz5_1; try clear hfz5_2; try clear hfz5_3; try clear hfz9_0; try clear hfz9_1; try clear hfz9_2; try clear hfz9_3
   obtain ⟨x3_1, x13_1, rfl, HA, HK1, HO_3, BK335, HB⟩ := hrel
   cases gk with
   | zero => exact absurd HA.out (by simp [impl_LoopInside.l0])
   | succ k1 =>
    have H := HA.out
    clear HA
    simp only [impl_LoopInside.l0] at H
    by_cases c10 : x13_1 < a0_0
    ·rw [if_pos c10] at H
     have c10b0 : decide (x13_1 < a0_0) = true := decide_eq_true c10
     clear c10
     have H' := asd H
     clear H
     have hcz11_0 : wr.cell? ⟨gb335, 0, none⟩ = some (.int .i64 a0_0) := (blk_cell BK335.out 0).trans rfl
     have hcz11_1 : wr.cell? ⟨gb335, 1, none⟩ = some (.int .i64 a0_1) := (blk_cell BK335.out 1).trans rfl
     have hcz11_2 : wr.cell? ⟨gb335, 2, none⟩ = some (.slice A0_2 l0_2.length c0_2) := (blk_cell BK335.out 2).trans rfl
     have hcz11_3 : wr.cell? ⟨gb335, 3, none⟩ = some (.slice A0_3 l0_3.length c0_3) := (blk_cell BK335.out 3).trans rfl
     have hfz11_0 := blk_frozen BK335.out 0
     have hfz11_1 := blk_frozen BK335.out 1
     have hfz11_2 := blk_frozen BK335.out 2
     have hfz11_3 := blk_frozen BK335.out 3
     go_wp2
     go_loopg [3, 5, 18] k1 (fun kq v3 v5 v18 w' => ∃ (x3_2 : List Bool) (x5_2 : Bool) (x18_2 : Int), v5 = .bool x5_2 ∧ v18 = .int .i64 x18_2 ∧ Aside0 (impl_LoopInside.l1 kq x3_2 x13_1 x5_2 a0_0 x13_1 a0_1 x18_2 a0_0 a0_1 l0_2 l0_3 = some r) ∧ Aside0 (kq ≤ k1) ∧ Aside0 (Kd.R Kd.bool 4 w' w.heap.size (fun _ => True) v3 x3_2) ∧ Aside0 (w'.heap[gb335]? = some (.cells #[.int .i64 a0_0, .int .i64 a0_1, (.slice A0_2 l0_2.length c0_2), (.slice A0_3 l0_3.length c0_3)] 25 (0, 0))) ∧ Aside0 (Below w.heap.size w w'))
     case atStart => exact ⟨(x3_1), (false), (0), (by first | rfl | (simp; done) | (simp [*]; done)), (by first | rfl | (simp; done) | (simp [*]; done)), H', ⟨Nat.le_refl _⟩, ⟨by (with_reducible repeat (first | apply Kd.R_alloc | apply Kd.R_drewN | apply Kd.R_drew)); exact HO_3.out⟩, ⟨by (with_reducible repeat (first | refine blk_drewN ?_ _ | refine blk_drew ?_ | refine blk_alloc ?_ _)); exact BK335.out⟩, ⟨by repeat (first | (with_reducible first | exact HB.out | apply below_alloc | apply pw_below_drewN | apply below_drew1 | refine below_set ?_ GE335.out) | exact HB.out)⟩⟩
     case round =>
      clear H'; try clear c1; try clear c10b0; try clear hcz11_0; try clear hcz11_1; try clear hcz11_2; try clear hcz11_3; try clear hfz11_0; try clear hfz11_1; try clear hfz11_2; try clear hfz11_3
      obtain ⟨x3_2, x5_2, x18_2, rfl, rfl, HA, HK2, HO_3, BK335, HB⟩ := hrel
      cases gk with
      | zero => exact absurd HA.out (by simp [impl_LoopInside.l1])
      | succ k2 =>
       have H := HA.out
       clear HA
       simp only [impl_LoopInside.l1] at H
       by_cases c12 : x18_2 < a0_1
       ·rw [if_pos c12] at H
        have c12b0 : decide (x18_2 < a0_1) = true := decide_eq_true c12
        clear c12
        by_cases c13 : 0 ≤ x18_2
        ·rw [if_pos c13] at H
         have c13b0 : decide (0 ≤ x18_2) = true := decide_eq_true c13
         clear c13
         by_cases c14 : x18_2 < (l0_3.length : Int)
         ·rw [if_pos c14] at H
          have c14b0 : decide (x18_2 < (l0_3.length : Int)) = true := decide_eq_true c14
          clear c14
          by_cases c15 : 0 ≤ x13_1
          ·rw [if_pos c15] at H
           have c15b0 : decide (0 ≤ x13_1) = true := decide_eq_true c15
           clear c15
           by_cases c16 : x13_1 < ((rd_L1 l0_3 x18_2).length : Int)
           ·rw [if_pos c16] at H
            have c16b0 : decide (x13_1 < ((rd_L1 l0_3 x18_2).length : Int)) = true := decide_eq_true c16
            clear c16
            by_cases c17 : x3_2.length < 140737488355328
            ·rw [if_pos c17] at H
             have LMc17 := asd c17
             clear c17
             obtain ⟨y342, hy342⟩ : ∃ y_ : List Bool, y_ = (x3_2 ++ [(x5_2 != (rdOf false (rd_L1 l0_3 x18_2) x13_1))]) := ⟨_, rfl⟩
             replace H : (impl_LoopInside.l1 k2 y342 x13_1 (x5_2 != (rdOf false (rd_L1 l0_3 x18_2) x13_1)) a0_0 x13_1 a0_1 (wrap64 (x18_2 + 1)) a0_0 a0_1 l0_2 l0_3) = some r := by first | (rw [hy342]; with_reducible exact H) | (have H2_ := (Option.bind_some _ _).symm.trans H; rw [hy342]; with_reducible exact H2_) | (have H2_ := (Option.bind_some _ _).symm.trans H; with_reducible exact H2_) | with_reducible exact H | (rw [hy342]; exact H) | exact H
             have Ny342 := asd hy342
             clear hy342
             have H' := asd H
             clear H
             have hcz18_0 : wr.cell? ⟨gb335, 0, none⟩ = some (.int .i64 a0_0) := (blk_cell BK335.out 0).trans rfl
             have hcz18_1 : wr.cell? ⟨gb335, 1, none⟩ = some (.int .i64 a0_1) := (blk_cell BK335.out 1).trans rfl
             have hcz18_2 : wr.cell? ⟨gb335, 2, none⟩ = some (.slice A0_2 l0_2.length c0_2) := (blk_cell BK335.out 2).trans rfl
             have hcz18_3 : wr.cell? ⟨gb335, 3, none⟩ = some (.slice A0_3 l0_3.length c0_3) := (blk_cell BK335.out 3).trans rfl
             have hfz18_0 := blk_frozen BK335.out 0
             have hfz18_1 := blk_frozen BK335.out 1
             have hfz18_2 := blk_frozen BK335.out 2
             have hfz18_3 := blk_frozen BK335.out 3
             have p340 : 0 ≤ (x18_2 : Int) := of_decide_eq_true (by first | (with_reducible assumption) | assumption)
             have q340 : x18_2 < (l0_3.length : Int) := of_decide_eq_true (by first | (with_reducible assumption) | assumption)
             obtain ⟨ad340, A340_0, c340_0, e340, hx340_0, hl340_0, hi340_0⟩ := at_L1 HR0_3.out x18_2 p340 q340
             cases e340
             replace hx340_0 := (HB.out.cell (World.block_lt_of_cell? w _ hx340_0)).trans hx340_0
             have HR340_0 := asd hi340_0
             have HC340_0 := asd hl340_0
             clear hi340_0 hl340_0
             replace p340 := eq_true p340
             replace q340 := eq_true q340
             have p341 : 0 ≤ (x13_1 : Int) := of_decide_eq_true (by first | (with_reducible assumption) | assumption)
             have q341 : x13_1 < ((rd_L1 l0_3 x18_2).length : Int) := of_decide_eq_true (by first | (with_reducible assumption) | assumption)
             obtain ⟨ad341, e341, hx341_0⟩ := Kd.at_bool HR340_0.out x13_1 p341 q341
             cases e341
             replace hx341_0 := (HB.out.cell (World.block_lt_of_cell? w _ hx341_0)).trans hx341_0
             replace p341 := eq_true p341
             replace q341 := eq_true q341
             go_wp2_with (first | ((with_reducible refine gate_builtin (b := .append) (xs := #[.tmp 31, .tmp 33]) rfl ?_); at_builtin; refine Kd.R_append Kd.bool (w0 := w) w.heap.size rfl (.tmp 31) (.tmp 33) 22 4 (.bool false) 1 rfl Try.underlying22 info4 rfl (by decide) (by omega) u3 x3_2 (x5_2 != (rdOf false (rd_L1 l0_3 x18_2) x13_1)) [.bool (x5_2 != (rdOf false (rd_L1 l0_3 x18_2) x13_1))] (fun _ => True) (fun _ => False) rfl rfl ?aP (fun _ hk => hk.elim) ?aF ?aO ?aB ?aS ?aL ?_; (case aP => exact rfl); (case aB => exact (by repeat (first | (with_reducible first | exact HB.out | apply below_alloc | apply pw_below_drewN | apply below_drew1 | refine below_set ?_ GE335.out) | exact HB.out))); (case aF => exact (fun _ _ => trivial)); (case aO => exact (by (with_reducible repeat (first | apply Kd.R_alloc | apply Kd.R_drewN | apply Kd.R_drew)); exact HO_3.out)); (case aS => exact (below_size (by repeat (first | (with_reducible first | exact HB.out | apply below_alloc | apply pw_below_drewN | apply below_drew1 | refine below_set ?_ GE335.out) | exact HB.out)))); (case aL => have := LMc17.out; omega); intro v343 w19 ho hb hg hat; rw [← Ny342.out] at ho; have n0_ := asd (blk_grown (g := gb335) (o := .cells #[.int .i64 a0_0, .int .i64 a0_1, .slice A0_2 l0_2.length c0_2, .slice (some ad340) l0_3.length c0_3] 25 (0, 0)) (by (with_reducible repeat (first | refine blk_drewN ?_ _ | refine blk_drew ?_ | refine blk_alloc ?_ _)); exact BK335.out) hg (Kd.R_ne HO_3.out BK335.out (by decide))); have n1_ := asd (hb); have n2_ := asd (ho); clear BK335 HB HO_3; have BK335 := n0_; have HB := n1_; have HO344 := n2_; clear n0_ n1_ n2_; clear ho hb hg hat))
             go_roundg k2
             case measure => have := HK1.out; have := HK2.out; omega
             case rel => exact ⟨(y342), ((x5_2 != (rdOf false (rd_L1 l0_3 x18_2) x13_1))), (wrap64 (x18_2 + 1)), (by first | rfl | (simp; done) | (simp [*]; done)), (by first | rfl | (simp; done) | (simp [*]; done)), H', ⟨by have := HK1.out; have := HK2.out; omega⟩, ⟨by (with_reducible repeat (first | apply Kd.R_alloc | apply Kd.R_drewN | apply Kd.R_drew)); exact HO344.out⟩, ⟨by (with_reducible repeat (first | refine blk_drewN ?_ _ | refine blk_drew ?_ | refine blk_alloc ?_ _)); exact BK335.out⟩, ⟨by repeat (first | (with_reducible first | exact HB.out | apply below_alloc | apply pw_below_drewN | apply below_drew1 | refine below_set ?_ GE335.out) | exact HB.out)⟩⟩
            ·rw [if_neg c17] at H
             exact absurd H (by simp)
           ·rw [if_neg c16] at H
            exact absurd H (by simp)
          ·rw [if_neg c15] at H
           exact absurd H (by simp)
         ·rw [if_neg c14] at H
          exact absurd H (by simp)
        ·rw [if_neg c13] at H
         exact absurd H (by simp)
       ·rw [if_neg c12] at H
        have c12b0 : decide (x18_2 < a0_1) = false := decide_eq_false c12
        clear c12
        have H' := asd H
        clear H
        go_wp2
        go_roundg k2
        case measure => have := HK1.out; have := HK2.out; omega
        case rel => exact ⟨(x3_2), (wrap64 (x13_1 + 1)), (by first | rfl | (simp; done) | (simp [*]; done)), H', ⟨by have := HK1.out; have := HK2.out; omega⟩, ⟨by (with_reducible repeat (first | apply Kd.R_alloc | apply Kd.R_drewN | apply Kd.R_drew)); exact HO_3.out⟩, ⟨by (with_reducible repeat (first | refine blk_drewN ?_ _ | refine blk_drew ?_ | refine blk_alloc ?_ _)); exact BK335.out⟩, ⟨by repeat (first | (with_reducible first | exact HB.out | apply below_alloc | apply pw_below_drewN | apply below_drew1 | refine below_set ?_ GE335.out) | exact HB.out)⟩⟩
    ·rw [if_neg c10] at H
     have c10b0 : decide (x13_1 < a0_0) = false := decide_eq_false c10
     clear c10
     obtain rfl := Option.some.inj H
     go_wp2
     go_ret
     exact ⟨_, by first | rfl | (simp [errW_none, errW_some] <;> rfl) | (simp [*, errW_none, errW_some] <;> rfl), by (with_reducible repeat (first | apply Kd.R_alloc | apply Kd.R_drewN | apply Kd.R_drew)); exact HO_3.out, by repeat (first | (with_reducible first | exact HB.out | apply below_alloc | apply pw_below_drewN | apply below_drew1 | refine below_set ?_ GE335.out) | exact HB.out)⟩
 ·replace c3 := Bool.eq_false_iff.mpr c3
  subst c3
  have H1 : (some ([] : List Bool)) = some r := by rw [if_neg (show ¬ (false = true) by decide)] at H; exact H
  clear H
  have H := H1
  clear H1
  obtain rfl := Option.some.inj H
  go_enter Try.func26, Try.ntmps26
  go_wp2_with (first | ((with_reducible refine gate_dst (N := 1) rfl ?_); refine box_event ?hg (N := 1) ?hd (cs := #[.int .i64 a0_0, .int .i64 a0_1, .slice A0_2 l0_2.length c0_2, .slice A0_3 l0_3.length c0_3]) (t := 25) ?hr ?_; (case hd => rfl); (case hg => rfl); (case hr => first | (go_simp; done) | (go_simp; rfl)); intro gb335 hg w20 hbox hb; have n0_ := asd (below_step (by repeat (first | (with_reducible first | exact HB.out | apply below_alloc | apply pw_below_drewN | apply below_drew1) | exact HB.out)) hb); have n1_ := asd (hbox); have n2_ := asd ((by rw [hg]; exact (below_size (by repeat (first | (with_reducible first | exact HB.out | apply below_alloc | apply pw_below_drewN | apply below_drew1) | exact HB.out))) : w.heap.size ≤ gb335)); have n3_ := asd ((by rw [hg]; exact (below_size (by repeat (first | (with_reducible first | exact HB.out | apply below_alloc | apply pw_below_drewN | apply below_drew1) | exact HB.out))) : w.heap.size ≤ gb335)); clear HB; have HB := n0_; have BK335 := n1_; have GW335 := n2_; have GE335 := n3_; clear n0_ n1_ n2_ n3_ hb hbox hg; have hcz21_0 : w20.cell? ⟨gb335, 0, none⟩ = some (.int .i64 a0_0) := (blk_cell BK335.out 0).trans rfl; have hcz21_1 : w20.cell? ⟨gb335, 1, none⟩ = some (.int .i64 a0_1) := (blk_cell BK335.out 1).trans rfl; have hcz21_2 : w20.cell? ⟨gb335, 2, none⟩ = some (.slice A0_2 l0_2.length c0_2) := (blk_cell BK335.out 2).trans rfl; have hcz21_3 : w20.cell? ⟨gb335, 3, none⟩ = some (.slice A0_3 l0_3.length c0_3) := (blk_cell BK335.out 3).trans rfl; have hfz21_0 := blk_frozen BK335.out 0; have hfz21_1 := blk_frozen BK335.out 1; have hfz21_2 := blk_frozen BK335.out 2; have hfz21_3 := blk_frozen BK335.out 3) | ((with_reducible refine gate_callee (f := 50) rfl ?_); refine goesL_ (some 8) rfl rfl Try.func50 (by kernel_rfl) rfl #[.agg #[.int .i64 a0_0, .int .i64 a0_1, .slice A0_2 l0_2.length c0_2, .slice A0_3 l0_3.length c0_3]] rfl (by (try simp only [List.map_toArray, List.map_cons, List.map_nil]); first | done | rfl | (simp only [List.length_drop, List.length_take]; rfl)) ?_; (with_reducible refine (impl_LoopClosed.calls k a0_0 a0_1 _ _ l0_2 _ _ l0_3 false _ ?side1 ?side2 ?side3 ?side4 A2.out).mono ?_); (case side1 => repeat (first | exact (Kd.C_below HR0_2.out HB.out) | (with_reducible refine Kd.C_alloc ?_ _) | (with_reducible refine Kd.C_drewN ?_ _) | (with_reducible refine Kd.C_drew ?_))); (case side2 => exact HC0_2.out); (case side3 => repeat (first | exact (Kd.C_below HR0_3.out HB.out) | (with_reducible refine Kd.C_alloc ?_ _) | (with_reducible refine Kd.C_drewN ?_ _) | (with_reducible refine Kd.C_drew ?_))); (case side4 => exact HC0_3.out); rintro e w22 ⟨rfl, hb⟩; refine ⟨_, rfl, ?_⟩; have n0_ := asd (blk_below (g := gb335) (o := .cells #[.int .i64 a0_0, .int .i64 a0_1, .slice A0_2 l0_2.length c0_2, .slice A0_3 l0_3.length c0_3] 25 (0, 0)) (by (with_reducible repeat (first | refine blk_drewN ?_ _ | refine blk_drew ?_ | refine blk_alloc ?_ _)); exact BK335.out) hb); have n1_ := asd (below_step (by repeat (first | (with_reducible first | exact HB.out | apply below_alloc | apply pw_below_drewN | apply below_drew1 | refine below_set ?_ GE335.out) | exact HB.out)) hb); clear BK335 HB; have BK335 := n0_; have HB := n1_; clear n0_ n1_))
  go_ret
  exact ⟨_, by first | rfl | (simp [errW_none, errW_some] <;> rfl) | (simp [*, errW_none, errW_some] <;> rfl), by first | exact Kd.R_nil _ _ _ _ _ | exact Kd.N_nil _ _ _ _ _ | exact Kd.V_nil _ _ _ _ _ | exact Kd.Q_nil _ _ _ _ _ | exact Kd.S_nil _ _ _ _ _, by repeat (first | (with_reducible first | exact HB.out | apply below_alloc | apply pw_below_drewN | apply below_drew1 | refine below_set ?_ GE335.out) | exact HB.out)⟩

end Go.Proofs.Ytncmneliinbjdaa.PMk
