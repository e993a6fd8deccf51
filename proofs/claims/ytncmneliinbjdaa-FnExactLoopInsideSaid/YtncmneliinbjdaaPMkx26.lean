/- Functions of the program, and what a call comes to. No conditions. -/
import Derived.Test.YtncmneliinbjdaaPMkx0
import Derived.Test.YtncmneliinbjdaaPMkx25
namespace Go.Proofs.Ytncmneliinbjdaa.PMk
open Go.RowKit Go.Proofs.YtncmneliinbjdaaW.PrintWords Go.Proofs.YtncmneliinbjdaaW.PrintLast Go.Proofs.YtncmneliinbjdaaW.PrintMore
set_option linter.unusedVariables false
set_option linter.unusedSimpArgs false

/-! ### spec_LoopInside: function 25 -/
mutual
def spec_LoopInside.l0 : Nat → List Bool → Int → Int → Int → List (List Bool) → List (List Bool) → Option (List Bool)
 | 0, _, _, _, _, _, _ => none
 | k + 1, x3, x4, x309000, x309001, x309002, x309003 => if x4 < x309000 then (spec_LoopInside.l1 k x3 x4 false 0 x309000 x309001 x309002 x309003) else (some x3)
def spec_LoopInside.l1 : Nat → List Bool → Int → Bool → Int → Int → Int → List (List Bool) → List (List Bool) → Option (List Bool)
 | 0, _, _, _, _, _, _, _, _ => none
 | k + 1, x3, x4, x5, x6, x309000, x309001, x309002, x309003 => if x6 < x309001 then (if 0 ≤ x6 then (if x6 < (x309003.length : Int) then (if 0 ≤ x4 then (if x4 < ((rd_L1 x309003 x6).length : Int) then (if rdOf false (rd_L1 x309003 x6) x4 = true then (if x3.length < 140737488355328 then (spec_LoopInside.l1 k (x3 ++ [!x5]) x4 (!x5) (wrap64 (x6 + 1)) x309000 x309001 x309002 x309003) else (none)) else (if x3.length < 140737488355328 then (spec_LoopInside.l1 k (x3 ++ [x5]) x4 x5 (wrap64 (x6 + 1)) x309000 x309001 x309002 x309003) else (none))) else (none)) else (none)) else (none)) else (none)) else (spec_LoopInside.l0 k x3 (wrap64 (x4 + 1)) x309000 x309001 x309002 x309003)
end
def spec_LoopInside.f (k : Nat) (a0_0 : Int) (a0_1 : Int) (l0_2 : List (List Bool)) (l0_3 : List (List Bool)) : Option (List Bool) := (some (([] : List Bool) : List Bool)).bind fun y309 => ((spec_LoopClosed.f k a0_0 a0_1 l0_2 l0_3).bind fun t312 => (if t312 = true then (spec_LoopInside.l0 k y309 0 a0_0 a0_1 l0_2 l0_3) else (some y309)))
theorem spec_LoopInside.mono_l : ∀ k, (∀ y0 y1 y2 y3 y4 y5, LeO (spec_LoopInside.l0 k y0 y1 y2 y3 y4 y5) (spec_LoopInside.l0 (k + 1) y0 y1 y2 y3 y4 y5)) ∧ (∀ y0 y1 y2 y3 y4 y5 y6 y7, LeO (spec_LoopInside.l1 k y0 y1 y2 y3 y4 y5 y6 y7) (spec_LoopInside.l1 (k + 1) y0 y1 y2 y3 y4 y5 y6 y7))
 | 0 => ⟨fun _ _ _ _ _ _ r h => by simp [spec_LoopInside.l0] at h, fun _ _ _ _ _ _ _ _ r h => by simp [spec_LoopInside.l1] at h⟩
 | k + 1 => by
  obtain ⟨ih0, ih1⟩ := spec_LoopInside.mono_l k
  refine ⟨?_, ?_⟩
  ·intro y0 y1 y2 y3 y4 y5
   unfold spec_LoopInside.l0
   repeat' first | (with_reducible first | exact ih0 _ _ _ _ _ _ | exact ih1 _ _ _ _ _ _ _ _ | exact spec_LoopClosed.mono _ _ _ _ _ | exact LeO.refl _ | exact LeO.none _ | refine LeO.ite ?_ ?_ | refine LeO.bind ?_ (fun _ => ?_)) | exact LeO.none _ | refine LeO.ite ?_ ?_ | refine LeO.bind ?_ (fun _ => ?_)
  ·intro y0 y1 y2 y3 y4 y5 y6 y7
   unfold spec_LoopInside.l1
   repeat' first | (with_reducible first | exact ih0 _ _ _ _ _ _ | exact ih1 _ _ _ _ _ _ _ _ | exact spec_LoopClosed.mono _ _ _ _ _ | exact LeO.refl _ | exact LeO.none _ | refine LeO.ite ?_ ?_ | refine LeO.bind ?_ (fun _ => ?_)) | exact LeO.none _ | refine LeO.ite ?_ ?_ | refine LeO.bind ?_ (fun _ => ?_)
theorem spec_LoopInside.mono : ∀ a0 a1 a2 a3 k, LeO (spec_LoopInside.f k a0 a1 a2 a3) (spec_LoopInside.f (k + 1) a0 a1 a2 a3) := by
 intro a0 a1 a2 a3 k
 obtain ⟨ih0, ih1⟩ := spec_LoopInside.mono_l k
 unfold spec_LoopInside.f
 repeat' first | (with_reducible first | exact ih0 _ _ _ _ _ _ | exact ih1 _ _ _ _ _ _ _ _ | exact spec_LoopClosed.mono _ _ _ _ _ | exact LeO.refl _ | exact LeO.none _ | refine LeO.ite ?_ ?_ | refine LeO.bind ?_ (fun _ => ?_)) | exact LeO.none _ | refine LeO.ite ?_ ?_ | refine LeO.bind ?_ (fun _ => ?_)
set_option maxHeartbeats 8000000 in
set_option maxRecDepth 100000 in
theorem spec_LoopInside.calls (k : Nat) (a0_0 : Int) (a0_1 : Int) (A0_2 : Option Addr) (c0_2 : Nat) (l0_2 : List (List Bool)) (A0_3 : Option Addr) (c0_3 : Nat) (l0_3 : List (List Bool)) (r : List Bool) (w : World) (hr0_2 : Kd.C (Kd.slice 4 Kd.bool) w A0_2 l0_2.length l0_2) (hc0_2 : l0_2.length ≤ c0_2) (hr0_3 : Kd.C (Kd.slice 4 Kd.bool) w A0_3 l0_3.length l0_3) (hc0_3 : l0_3.length ≤ c0_3) (h : spec_LoopInside.f k a0_0 a0_1 l0_2 l0_3 = some r) :
  Calls Try.prog 25 #[.agg #[.int .i64 a0_0, .int .i64 a0_1, .slice A0_2 l0_2.length c0_2, .slice A0_3 l0_3.length c0_3]] w fun e w' => ∃ v0_ : Value, e = .returned (v0_) ∧ Kd.R Kd.bool 4 w' w.heap.size (fun _ => True) v0_ r ∧ Below w.heap.size w w' := by
 have hu25 := Try.underlying25
 have HR0_2 := asd hr0_2
 have HC0_2 := asd hc0_2
 clear hr0_2 hc0_2
 have HR0_3 := asd hr0_3
 have HC0_3 := asd hc0_3
 clear hr0_3 hc0_3
 have HB := asd (Below.refl w.heap.size w)
 have H : ((some (([] : List Bool) : List Bool)).bind fun y309 => ((spec_LoopClosed.f k a0_0 a0_1 l0_2 l0_3).bind fun t312 => (if t312 = true then (spec_LoopInside.l0 k y309 0 a0_0 a0_1 l0_2 l0_3) else (some y309)))) = some r := h
 clear h
 obtain ⟨y309, hy309⟩ : ∃ y_ : List Bool, y_ = (([] : List Bool)) := ⟨_, rfl⟩
 replace H : ((spec_LoopClosed.f k a0_0 a0_1 l0_2 l0_3).bind fun t312 => (if t312 = true then (spec_LoopInside.l0 k y309 0 a0_0 a0_1 l0_2 l0_3) else (some y309))) = some r := by first | (rw [hy309]; with_reducible exact H) | (have H2_ := (Option.bind_some _ _).symm.trans H; rw [hy309]; with_reducible exact H2_) | (have H2_ := (Option.bind_some _ _).symm.trans H; with_reducible exact H2_) | with_reducible exact H | (rw [hy309]; exact H) | exact H
 have Ny309 := asd hy309
 clear hy309
 replace H := Option.bind_eq_some_iff.mp H
 obtain ⟨t312, A20, H⟩ := H
 replace H : (if t312 = true then (spec_LoopInside.l0 k y309 0 a0_0 a0_1 l0_2 l0_3) else (some y309)) = some r := H
 have A2 := asd A20
 clear A20
 by_cases c3 : t312 = true
 ·subst c3
  have H1 : (spec_LoopInside.l0 k y309 0 a0_0 a0_1 l0_2 l0_3) = some r := by rw [if_pos rfl] at H; exact H
  clear H
  have H := H1
  clear H1
  have H' := asd H
  clear H
  go_enter Try.func25, Try.ntmps25
  go_wp2_with (first | ((with_reducible refine gate_dst (N := 1) rfl ?_); refine box_event ?hg (N := 1) ?hd (cs := #[.int .i64 a0_0, .int .i64 a0_1, .slice A0_2 l0_2.length c0_2, .slice A0_3 l0_3.length c0_3]) (t := 25) ?hr ?_; (case hd => rfl); (case hg => rfl); (case hr => first | (go_simp; done) | (go_simp; rfl)); intro gb308 hg w4 hbox hb; have n0_ := asd (below_step (by repeat (first | (with_reducible first | exact HB.out | apply below_alloc | apply pw_below_drewN | apply below_drew1) | exact HB.out)) hb); have n1_ := asd (hbox); have n2_ := asd ((by rw [hg]; exact (below_size (by repeat (first | (with_reducible first | exact HB.out | apply below_alloc | apply pw_below_drewN | apply below_drew1) | exact HB.out))) : w.heap.size ≤ gb308)); have n3_ := asd ((by rw [hg]; exact (below_size (by repeat (first | (with_reducible first | exact HB.out | apply below_alloc | apply pw_below_drewN | apply below_drew1) | exact HB.out))) : w.heap.size ≤ gb308)); clear HB; have HB := n0_; have BK308 := n1_; have GW308 := n2_; have GE308 := n3_; clear n0_ n1_ n2_ n3_; clear hb hbox hg) | ((with_reducible refine gate_dst (N := 7) rfl ?_); refine Kd.R_lit Kd.bool _ 4 ?hg (N := 7) ?hd (xs := ([] : List Bool)) (inner := []) (ok := fun _ => True) (okp := fun _ => True) ?hr ?hp (fun _ hk => hk) trivial (Below.refl _ _) (Nat.le_refl _) (by simp) ?_; (case hd => rfl); (case hg => rfl); (case hr => first | (go_simp; done) | (go_simp; rfl)); (case hp => exact (Reps.none _ _)); intro v310 w5 ho6 hb hg_ hnew_; clear hg_ hnew_; (first | rw [← Ny309.out] at ho6 | (simp only [Int.reduceToNat] at ho6; rw [← Ny309.out] at ho6)); have n0_ := asd (Kd.R_lower ho6 (below_size (by repeat (first | (with_reducible first | exact HB.out | apply below_alloc | apply pw_below_drewN | apply below_drew1 | refine below_set ?_ GE308.out) | exact HB.out)))); have n1_ := asd (blk_below (g := gb308) (o := .cells #[.int .i64 a0_0, .int .i64 a0_1, .slice A0_2 l0_2.length c0_2, .slice A0_3 l0_3.length c0_3] 25 (0, 0)) (by (with_reducible repeat (first | refine blk_drewN ?_ _ | refine blk_drew ?_ | refine blk_alloc ?_ _)); exact BK308.out) hb); have n2_ := asd (below_step (by repeat (first | (with_reducible first | exact HB.out | apply below_alloc | apply pw_below_drewN | apply below_drew1 | refine below_set ?_ GE308.out) | exact HB.out)) hb); clear BK308 HB; have HO311 := n0_; have BK308 := n1_; have HB := n2_; clear n0_ n1_ n2_ hb ho6; have hcz7_0 : w5.cell? ⟨gb308, 0, none⟩ = some (.int .i64 a0_0) := (blk_cell BK308.out 0).trans rfl; have hcz7_1 : w5.cell? ⟨gb308, 1, none⟩ = some (.int .i64 a0_1) := (blk_cell BK308.out 1).trans rfl; have hcz7_2 : w5.cell? ⟨gb308, 2, none⟩ = some (.slice A0_2 l0_2.length c0_2) := (blk_cell BK308.out 2).trans rfl; have hcz7_3 : w5.cell? ⟨gb308, 3, none⟩ = some (.slice A0_3 l0_3.length c0_3) := (blk_cell BK308.out 3).trans rfl; have hfz7_0 := blk_frozen BK308.out 0; have hfz7_1 := blk_frozen BK308.out 1; have hfz7_2 := blk_frozen BK308.out 2; have hfz7_3 := blk_frozen BK308.out 3) | ((with_reducible refine gate_callee (f := 49) rfl ?_); refine goesL_ (some 9) rfl rfl Try.func49 (by kernel_rfl) rfl #[.agg #[.int .i64 a0_0, .int .i64 a0_1, .slice A0_2 l0_2.length c0_2, .slice A0_3 l0_3.length c0_3]] rfl (by (try simp only [List.map_toArray, List.map_cons, List.map_nil]); first | done | rfl | (simp only [List.length_drop, List.length_take]; rfl)) ?_; (with_reducible refine (spec_LoopClosed.calls k a0_0 a0_1 _ _ l0_2 _ _ l0_3 true _ ?side1 ?side2 ?side3 ?side4 A2.out).mono ?_); (case side1 => repeat (first | exact (Kd.C_below HR0_2.out HB.out) | (with_reducible refine Kd.C_alloc ?_ _) | (with_reducible refine Kd.C_drewN ?_ _) | (with_reducible refine Kd.C_drew ?_))); (case side2 => exact HC0_2.out); (case side3 => repeat (first | exact (Kd.C_below HR0_3.out HB.out) | (with_reducible refine Kd.C_alloc ?_ _) | (with_reducible refine Kd.C_drewN ?_ _) | (with_reducible refine Kd.C_drew ?_))); (case side4 => exact HC0_3.out); rintro e w8 ⟨rfl, hb⟩; refine ⟨_, rfl, ?_⟩; have n0_ := asd (Kd.R_below (by (with_reducible repeat (first | apply Kd.R_alloc | apply Kd.R_drewN | apply Kd.R_drew)); exact HO311.out) hb); have n1_ := asd (blk_below (g := gb308) (o := .cells #[.int .i64 a0_0, .int .i64 a0_1, .slice A0_2 l0_2.length c0_2, .slice A0_3 l0_3.length c0_3] 25 (0, 0)) (by (with_reducible repeat (first | refine blk_drewN ?_ _ | refine blk_drew ?_ | refine blk_alloc ?_ _)); exact BK308.out) hb); have n2_ := asd (below_step (by repeat (first | (with_reducible first | exact HB.out | apply below_alloc | apply pw_below_drewN | apply below_drew1 | refine below_set ?_ GE308.out) | exact HB.out)) hb); clear HO311 BK308 HB; have HO311 := n0_; have BK308 := n1_; have HB := n2_; clear n0_ n1_ n2_))
  go_loopg [3, 4] k (fun kq v3 v4 w' => ∃ (x3_1 : List Bool) (x4_1 : Int), v4 = .int .i64 x4_1 ∧ Aside0 (spec_LoopInside.l0 kq x3_1 x4_1 a0_0 a0_1 l0_2 l0_3 = some r) ∧ Aside0 (kq ≤ k) ∧ Aside0 (Kd.R Kd.bool 4 w' w.heap.size (fun _ => True) v3 x3_1) ∧ Aside0 (w'.heap[gb308]? = some (.cells #[.int .i64 a0_0, .int .i64 a0_1, (.slice A0_2 l0_2.length c0_2), (.slice A0_3 l0_3.length c0_3)] 25 (0, 0))) ∧ Aside0 (Below w.heap.size w w'))
  case atStart => exact ⟨(y309), (0), (by first | rfl | (simp; done) | (simp [*]; done)), H', ⟨Nat.le_refl _⟩, ⟨by (with_reducible repeat (first | apply Kd.R_alloc | apply Kd.R_drewN | apply Kd.R_drew)); exact HO311.out⟩, ⟨by (with_reducible repeat (first | refine blk_drewN ?_ _ | refine blk_drew ?_ | refine blk_alloc ?_ _)); exact BK308.out⟩, ⟨by repeat (first | (with_reducible first | exact HB.out | apply below_alloc | apply pw_below_drewN | apply below_drew1 | refine below_set ?_ GE308.out) | exact HB.out)⟩⟩
  case round =>
   clear H'; try clear c2; try clear p2; try clear c3; try clear c4; try clear hcz7_0; try clear hcz7_1; try clear hcz7_2; try clear hcz7_3; try clear hfz7_0; try clear hfz7_1; try clear hfz7_2; try clear hfz7_3
   obtain ⟨x3_1, x4_1, rfl, HA, HK1, HO_3, BK308, HB⟩ := hrel
   cases gk with
   | zero => exact absurd HA.out (by simp [spec_LoopInside.l0])
   | succ k1 =>
    have H := HA.out
    clear HA
    simp only [spec_LoopInside.l0] at H
    by_cases c9 : x4_1 < a0_0
    ·rw [if_pos c9] at H
     have c9b0 : decide (x4_1 < a0_0) = true := decide_eq_true c9
     clear c9
     have H' := asd H
     clear H
     have hcz10_0 : wr.cell? ⟨gb308, 0, none⟩ = some (.int .i64 a0_0) := (blk_cell BK308.out 0).trans rfl
     have hcz10_1 : wr.cell? ⟨gb308, 1, none⟩ = some (.int .i64 a0_1) := (blk_cell BK308.out 1).trans rfl
     have hcz10_2 : wr.cell? ⟨gb308, 2, none⟩ = some (.slice A0_2 l0_2.length c0_2) := (blk_cell BK308.out 2).trans rfl
     have hcz10_3 : wr.cell? ⟨gb308, 3, none⟩ = some (.slice A0_3 l0_3.length c0_3) := (blk_cell BK308.out 3).trans rfl
     have hfz10_0 := blk_frozen BK308.out 0
     have hfz10_1 := blk_frozen BK308.out 1
     have hfz10_2 := blk_frozen BK308.out 2
     have hfz10_3 := blk_frozen BK308.out 3
     go_wp2
     go_loopg [3, 5, 6] k1 (fun kq v3 v5 v6 w' => ∃ (x3_2 : List Bool) (x5_2 : Bool) (x6_2 : Int), v5 = .bool x5_2 ∧ v6 = .int .i64 x6_2 ∧ Aside0 (spec_LoopInside.l1 kq x3_2 x4_1 x5_2 x6_2 a0_0 a0_1 l0_2 l0_3 = some r) ∧ Aside0 (kq ≤ k1) ∧ Aside0 (Kd.R Kd.bool 4 w' w.heap.size (fun _ => True) v3 x3_2) ∧ Aside0 (w'.heap[gb308]? = some (.cells #[.int .i64 a0_0, .int .i64 a0_1, (.slice A0_2 l0_2.length c0_2), (.slice A0_3 l0_3.length c0_3)] 25 (0, 0))) ∧ Aside0 (Below w.heap.size w w'))
     case atStart => exact ⟨(x3_1), (false), (0), (by first | rfl | (simp; done) | (simp [*]; done)), (by first | rfl | (simp; done) | (simp [*]; done)), H', ⟨Nat.le_refl _⟩, ⟨by (with_reducible repeat (first | apply Kd.R_alloc | apply Kd.R_drewN | apply Kd.R_drew)); exact HO_3.out⟩, ⟨by (with_reducible repeat (first | refine blk_drewN ?_ _ | refine blk_drew ?_ | refine blk_alloc ?_ _)); exact BK308.out⟩, ⟨by repeat (first | (with_reducible first | exact HB.out | apply below_alloc | apply pw_below_drewN | apply below_drew1 | refine below_set ?_ GE308.out) | exact HB.out)⟩⟩
     case round =>
      clear H'; try clear c9b0; try clear hcz10_0; try clear hcz10_1; try clear hcz10_2; try clear hcz10_3; try clear hfz10_0; try clear hfz10_1; try clear hfz10_2; try clear hfz10_3
      obtain ⟨x3_2, x5_2, x6_2, rfl, rfl, HA, HK2, HO_3, BK308, HB⟩ := hrel
      cases gk with
      | zero => exact absurd HA.out (by simp [spec_LoopInside.l1])
      | succ k2 =>
       have H := HA.out
       clear HA
       simp only [spec_LoopInside.l1] at H
       by_cases c11 : x6_2 < a0_1
       ·rw [if_pos c11] at H
        have c11b0 : decide (x6_2 < a0_1) = true := decide_eq_true c11
        clear c11
        by_cases c12 : 0 ≤ x6_2
        ·rw [if_pos c12] at H
         have c12b0 : decide (0 ≤ x6_2) = true := decide_eq_true c12
         clear c12
         by_cases c13 : x6_2 < (l0_3.length : Int)
         ·rw [if_pos c13] at H
          have c13b0 : decide (x6_2 < (l0_3.length : Int)) = true := decide_eq_true c13
          clear c13
          by_cases c14 : 0 ≤ x4_1
          ·rw [if_pos c14] at H
           have c14b0 : decide (0 ≤ x4_1) = true := decide_eq_true c14
           clear c14
           by_cases c15 : x4_1 < ((rd_L1 l0_3 x6_2).length : Int)
           ·rw [if_pos c15] at H
            have c15b0 : decide (x4_1 < ((rd_L1 l0_3 x6_2).length : Int)) = true := decide_eq_true c15
            clear c15
            obtain ⟨bq16, hbq16⟩ : ∃ b_ : Bool, b_ = (rdOf false (rd_L1 l0_3 x6_2) x4_1) := ⟨_, rfl⟩
            replace H : (if bq16 = true then (if x3_2.length < 140737488355328 then (spec_LoopInside.l1 k2 (x3_2 ++ [!x5_2]) x4_1 (!x5_2) (wrap64 (x6_2 + 1)) a0_0 a0_1 l0_2 l0_3) else (none)) else (if x3_2.length < 140737488355328 then (spec_LoopInside.l1 k2 (x3_2 ++ [x5_2]) x4_1 x5_2 (wrap64 (x6_2 + 1)) a0_0 a0_1 l0_2 l0_3) else (none))) = some r := by rw [← hbq16] at H; exact H
            have Nbq16 := asd hbq16
            clear hbq16
            by_cases c17 : bq16 = true
            ·subst c17
             have H1 : (if x3_2.length < 140737488355328 then (spec_LoopInside.l1 k2 (x3_2 ++ [!x5_2]) x4_1 (!x5_2) (wrap64 (x6_2 + 1)) a0_0 a0_1 l0_2 l0_3) else (none)) = some r := by rw [if_pos rfl] at H; exact H
             clear H
             have H := H1
             clear H1
             by_cases c18 : x3_2.length < 140737488355328
             ·rw [if_pos c18] at H
              have LMc18 := asd c18
              clear c18
              obtain ⟨y315, hy315⟩ : ∃ y_ : List Bool, y_ = (x3_2 ++ [!x5_2]) := ⟨_, rfl⟩
              replace H : (spec_LoopInside.l1 k2 y315 x4_1 (!x5_2) (wrap64 (x6_2 + 1)) a0_0 a0_1 l0_2 l0_3) = some r := by first | (rw [hy315]; with_reducible exact H) | (have H2_ := (Option.bind_some _ _).symm.trans H; rw [hy315]; with_reducible exact H2_) | (have H2_ := (Option.bind_some _ _).symm.trans H; with_reducible exact H2_) | with_reducible exact H | (rw [hy315]; exact H) | exact H
              have Ny315 := asd hy315
              clear hy315
              have H' := asd H
              clear H
              have hcz19_0 : wr.cell? ⟨gb308, 0, none⟩ = some (.int .i64 a0_0) := (blk_cell BK308.out 0).trans rfl
              have hcz19_1 : wr.cell? ⟨gb308, 1, none⟩ = some (.int .i64 a0_1) := (blk_cell BK308.out 1).trans rfl
              have hcz19_2 : wr.cell? ⟨gb308, 2, none⟩ = some (.slice A0_2 l0_2.length c0_2) := (blk_cell BK308.out 2).trans rfl
              have hcz19_3 : wr.cell? ⟨gb308, 3, none⟩ = some (.slice A0_3 l0_3.length c0_3) := (blk_cell BK308.out 3).trans rfl
              have hfz19_0 := blk_frozen BK308.out 0
              have hfz19_1 := blk_frozen BK308.out 1
              have hfz19_2 := blk_frozen BK308.out 2
              have hfz19_3 := blk_frozen BK308.out 3
              have p313 : 0 ≤ (x6_2 : Int) := of_decide_eq_true (by first | (with_reducible assumption) | assumption)
              have q313 : x6_2 < (l0_3.length : Int) := of_decide_eq_true (by first | (with_reducible assumption) | assumption)
              obtain ⟨ad313, A313_0, c313_0, e313, hx313_0, hl313_0, hi313_0⟩ := at_L1 HR0_3.out x6_2 p313 q313
              cases e313
              replace hx313_0 := (HB.out.cell (World.block_lt_of_cell? w _ hx313_0)).trans hx313_0
              have HR313_0 := asd hi313_0
              have HC313_0 := asd hl313_0
              clear hi313_0 hl313_0
              replace p313 := eq_true p313
              replace q313 := eq_true q313
              have p314 : 0 ≤ (x4_1 : Int) := of_decide_eq_true (by first | (with_reducible assumption) | assumption)
              have q314 : x4_1 < ((rd_L1 l0_3 x6_2).length : Int) := of_decide_eq_true (by first | (with_reducible assumption) | assumption)
              obtain ⟨ad314, e314, hx314_0⟩ := Kd.at_bool HR313_0.out x4_1 p314 q314
              (try rw [← Nbq16.out] at hx314_0)
              cases e314
              replace hx314_0 := (HB.out.cell (World.block_lt_of_cell? w _ hx314_0)).trans hx314_0
              replace p314 := eq_true p314
              replace q314 := eq_true q314
              go_wp2_with (first | ((with_reducible refine gate_builtin (b := .append) (xs := #[.tmp 34, .tmp 36]) rfl ?_); at_builtin; refine Kd.R_append Kd.bool (w0 := w) w.heap.size rfl (.tmp 34) (.tmp 36) 22 4 (.bool false) 1 rfl Try.underlying22 info4 rfl (by decide) (by omega) u3 x3_2 (!x5_2) [.bool (!x5_2)] (fun _ => True) (fun _ => False) rfl rfl ?aP (fun _ hk => hk.elim) ?aF ?aO ?aB ?aS ?aL ?_; (case aP => exact rfl); (case aB => exact (by repeat (first | (with_reducible first | exact HB.out | apply below_alloc | apply pw_below_drewN | apply below_drew1 | refine below_set ?_ GE308.out) | exact HB.out))); (case aF => exact (fun _ _ => trivial)); (case aO => exact (by (with_reducible repeat (first | apply Kd.R_alloc | apply Kd.R_drewN | apply Kd.R_drew)); exact HO_3.out)); (case aS => exact (below_size (by repeat (first | (with_reducible first | exact HB.out | apply below_alloc | apply pw_below_drewN | apply below_drew1 | refine below_set ?_ GE308.out) | exact HB.out)))); (case aL => have := LMc18.out; omega); intro v316 w20 ho hb hg hat; rw [← Ny315.out] at ho; have n0_ := asd (blk_grown (g := gb308) (o := .cells #[.int .i64 a0_0, .int .i64 a0_1, .slice A0_2 l0_2.length c0_2, .slice (some ad313) l0_3.length c0_3] 25 (0, 0)) (by (with_reducible repeat (first | refine blk_drewN ?_ _ | refine blk_drew ?_ | refine blk_alloc ?_ _)); exact BK308.out) hg (Kd.R_ne HO_3.out BK308.out (by decide))); have n1_ := asd (hb); have n2_ := asd (ho); clear BK308 HB HO_3; have BK308 := n0_; have HB := n1_; have HO317 := n2_; clear n0_ n1_ n2_; clear ho hb hg hat))
              go_roundg k2
              case measure => have := HK1.out; have := HK2.out; omega
              case rel => exact ⟨(y315), (!x5_2), (wrap64 (x6_2 + 1)), (by first | rfl | (simp; done) | (simp [*]; done)), (by first | rfl | (simp; done) | (simp [*]; done)), H', ⟨by have := HK1.out; have := HK2.out; omega⟩, ⟨by (with_reducible repeat (first | apply Kd.R_alloc | apply Kd.R_drewN | apply Kd.R_drew)); exact HO317.out⟩, ⟨by (with_reducible repeat (first | refine blk_drewN ?_ _ | refine blk_drew ?_ | refine blk_alloc ?_ _)); exact BK308.out⟩, ⟨by repeat (first | (with_reducible first | exact HB.out | apply below_alloc | apply pw_below_drewN | apply below_drew1 | refine below_set ?_ GE308.out) | exact HB.out)⟩⟩
             ·rw [if_neg c18] at H
              exact absurd H (by simp)
            ·replace c17 := Bool.eq_false_iff.mpr c17
             subst c17
             have H1 : (if x3_2.length < 140737488355328 then (spec_LoopInside.l1 k2 (x3_2 ++ [x5_2]) x4_1 x5_2 (wrap64 (x6_2 + 1)) a0_0 a0_1 l0_2 l0_3) else (none)) = some r := by rw [if_neg (show ¬ (false = true) by decide)] at H; exact H
             clear H
             have H := H1
             clear H1
             by_cases c21 : x3_2.length < 140737488355328
             ·rw [if_pos c21] at H
              have LMc21 := asd c21
              clear c21
              obtain ⟨y318, hy318⟩ : ∃ y_ : List Bool, y_ = (x3_2 ++ [x5_2]) := ⟨_, rfl⟩
              replace H : (spec_LoopInside.l1 k2 y318 x4_1 x5_2 (wrap64 (x6_2 + 1)) a0_0 a0_1 l0_2 l0_3) = some r := by first | (rw [hy318]; with_reducible exact H) | (have H2_ := (Option.bind_some _ _).symm.trans H; rw [hy318]; with_reducible exact H2_) | (have H2_ := (Option.bind_some _ _).symm.trans H; with_reducible exact H2_) | with_reducible exact H | (rw [hy318]; exact H) | exact H
              have Ny318 := asd hy318
              clear hy318
              have H' := asd H
              clear H
              have hcz22_0 : wr.cell? ⟨gb308, 0, none⟩ = some (.int .i64 a0_0) := (blk_cell BK308.out 0).trans rfl
              have hcz22_1 : wr.cell? ⟨gb308, 1, none⟩ = some (.int .i64 a0_1) := (blk_cell BK308.out 1).trans rfl
              have hcz22_2 : wr.cell? ⟨gb308, 2, none⟩ = some (.slice A0_2 l0_2.length c0_2) := (blk_cell BK308.out 2).trans rfl
              have hcz22_3 : wr.cell? ⟨gb308, 3, none⟩ = some (.slice A0_3 l0_3.length c0_3) := (blk_cell BK308.out 3).trans rfl
              have hfz22_0 := blk_frozen BK308.out 0
              have hfz22_1 := blk_frozen BK308.out 1
              have hfz22_2 := blk_frozen BK308.out 2
              have hfz22_3 := blk_frozen BK308.out 3
              have p313 : 0 ≤ (x6_2 : Int) := of_decide_eq_true (by first | (with_reducible assumption) | assumption)
              have q313 : x6_2 < (l0_3.length : Int) := of_decide_eq_true (by first | (with_reducible assumption) | assumption)
              obtain ⟨ad313, A313_0, c313_0, e313, hx313_0, hl313_0, hi313_0⟩ := at_L1 HR0_3.out x6_2 p313 q313
              cases e313
              replace hx313_0 := (HB.out.cell (World.block_lt_of_cell? w _ hx313_0)).trans hx313_0
              have HR313_0 := asd hi313_0
              have HC313_0 := asd hl313_0
              clear hi313_0 hl313_0
              replace p313 := eq_true p313
              replace q313 := eq_true q313
              have p314 : 0 ≤ (x4_1 : Int) := of_decide_eq_true (by first | (with_reducible assumption) | assumption)
              have q314 : x4_1 < ((rd_L1 l0_3 x6_2).length : Int) := of_decide_eq_true (by first | (with_reducible assumption) | assumption)
              obtain ⟨ad314, e314, hx314_0⟩ := Kd.at_bool HR313_0.out x4_1 p314 q314
              (try rw [← Nbq16.out] at hx314_0)
              cases e314
              replace hx314_0 := (HB.out.cell (World.block_lt_of_cell? w _ hx314_0)).trans hx314_0
              replace p314 := eq_true p314
              replace q314 := eq_true q314
              go_wp2_with (first | ((with_reducible refine gate_builtin (b := .append) (xs := #[.tmp 34, .tmp 36]) rfl ?_); at_builtin; refine Kd.R_append Kd.bool (w0 := w) w.heap.size rfl (.tmp 34) (.tmp 36) 22 4 (.bool false) 1 rfl Try.underlying22 info4 rfl (by decide) (by omega) u3 x3_2 x5_2 [.bool x5_2] (fun _ => True) (fun _ => False) rfl rfl ?aP (fun _ hk => hk.elim) ?aF ?aO ?aB ?aS ?aL ?_; (case aP => exact rfl); (case aB => exact (by repeat (first | (with_reducible first | exact HB.out | apply below_alloc | apply pw_below_drewN | apply below_drew1 | refine below_set ?_ GE308.out) | exact HB.out))); (case aF => exact (fun _ _ => trivial)); (case aO => exact (by (with_reducible repeat (first | apply Kd.R_alloc | apply Kd.R_drewN | apply Kd.R_drew)); exact HO_3.out)); (case aS => exact (below_size (by repeat (first | (with_reducible first | exact HB.out | apply below_alloc | apply pw_below_drewN | apply below_drew1 | refine below_set ?_ GE308.out) | exact HB.out)))); (case aL => have := LMc21.out; omega); intro v319 w23 ho hb hg hat; rw [← Ny318.out] at ho; have n0_ := asd (blk_grown (g := gb308) (o := .cells #[.int .i64 a0_0, .int .i64 a0_1, .slice A0_2 l0_2.length c0_2, .slice (some ad313) l0_3.length c0_3] 25 (0, 0)) (by (with_reducible repeat (first | refine blk_drewN ?_ _ | refine blk_drew ?_ | refine blk_alloc ?_ _)); exact BK308.out) hg (Kd.R_ne HO_3.out BK308.out (by decide))); have n1_ := asd (hb); have n2_ := asd (ho); clear BK308 HB HO_3; have BK308 := n0_; have HB := n1_; have HO320 := n2_; clear n0_ n1_ n2_; clear ho hb hg hat))
              go_roundg k2
              case measure => have := HK1.out; have := HK2.out; omega
              case rel => exact ⟨(y318), (x5_2), (wrap64 (x6_2 + 1)), (by first | rfl | (simp; done) | (simp [*]; done)), (by first | rfl | (simp; done) | (simp [*]; done)), H', ⟨by have := HK1.out; have := HK2.out; omega⟩, ⟨by (with_reducible repeat (first | apply Kd.R_alloc | apply Kd.R_drewN | apply Kd.R_drew)); exact HO320.out⟩, ⟨by (with_reducible repeat (first | refine blk_drewN ?_ _ | refine blk_drew ?_ | refine blk_alloc ?_ _)); exact BK308.out⟩, ⟨by repeat (first | (with_reducible first | exact HB.out | apply below_alloc | apply pw_below_drewN | apply below_drew1 | refine below_set ?_ GE308.out) | exact HB.out)⟩⟩
             ·rw [if_neg c21] at H
              exact absurd H (by simp)
           ·rw [if_neg c15] at H
            exact absurd H (by simp)
          ·rw [if_neg c14] at H
           exact absurd H (by simp)
         ·rw [if_neg c13] at H
          exact absurd H (by simp)
        ·rw [if_neg c12] at H
         exact absurd H (by simp)
       ·rw [if_neg c11] at H
        have c11b0 : decide (x6_2 < a0_1) = false := decide_eq_false c11
        clear c11
        have H' := asd H
        clear H
        have hcz24_0 : wr.cell? ⟨gb308, 0, none⟩ = some (.int .i64 a0_0) := (blk_cell BK308.out 0).trans rfl
        have hcz24_1 : wr.cell? ⟨gb308, 1, none⟩ = some (.int .i64 a0_1) := (blk_cell BK308.out 1).trans rfl
        have hcz24_2 : wr.cell? ⟨gb308, 2, none⟩ = some (.slice A0_2 l0_2.length c0_2) := (blk_cell BK308.out 2).trans rfl
        have hcz24_3 : wr.cell? ⟨gb308, 3, none⟩ = some (.slice A0_3 l0_3.length c0_3) := (blk_cell BK308.out 3).trans rfl
        have hfz24_0 := blk_frozen BK308.out 0
        have hfz24_1 := blk_frozen BK308.out 1
        have hfz24_2 := blk_frozen BK308.out 2
        have hfz24_3 := blk_frozen BK308.out 3
        go_wp2
        go_roundg k2
        case measure => have := HK1.out; have := HK2.out; omega
        case rel => exact ⟨(x3_2), (wrap64 (x4_1 + 1)), (by first | rfl | (simp; done) | (simp [*]; done)), H', ⟨by have := HK1.out; have := HK2.out; omega⟩, ⟨by (with_reducible repeat (first | apply Kd.R_alloc | apply Kd.R_drewN | apply Kd.R_drew)); exact HO_3.out⟩, ⟨by (with_reducible repeat (first | refine blk_drewN ?_ _ | refine blk_drew ?_ | refine blk_alloc ?_ _)); exact BK308.out⟩, ⟨by repeat (first | (with_reducible first | exact HB.out | apply below_alloc | apply pw_below_drewN | apply below_drew1 | refine below_set ?_ GE308.out) | exact HB.out)⟩⟩
    ·rw [if_neg c9] at H
     have c9b0 : decide (x4_1 < a0_0) = false := decide_eq_false c9
     clear c9
     obtain rfl := Option.some.inj H
     have hcz25_0 : wr.cell? ⟨gb308, 0, none⟩ = some (.int .i64 a0_0) := (blk_cell BK308.out 0).trans rfl
     have hcz25_1 : wr.cell? ⟨gb308, 1, none⟩ = some (.int .i64 a0_1) := (blk_cell BK308.out 1).trans rfl
     have hcz25_2 : wr.cell? ⟨gb308, 2, none⟩ = some (.slice A0_2 l0_2.length c0_2) := (blk_cell BK308.out 2).trans rfl
     have hcz25_3 : wr.cell? ⟨gb308, 3, none⟩ = some (.slice A0_3 l0_3.length c0_3) := (blk_cell BK308.out 3).trans rfl
     have hfz25_0 := blk_frozen BK308.out 0
     have hfz25_1 := blk_frozen BK308.out 1
     have hfz25_2 := blk_frozen BK308.out 2
     have hfz25_3 := blk_frozen BK308.out 3
     go_wp2
     go_ret
     exact ⟨_, by first | rfl | (simp [errW_none, errW_some] <;> rfl) | (simp [*, errW_none, errW_some] <;> rfl), by (with_reducible repeat (first | apply Kd.R_alloc | apply Kd.R_drewN | apply Kd.R_drew)); exact HO_3.out, by repeat (first | (with_reducible first | exact HB.out | apply below_alloc | apply pw_below_drewN | apply below_drew1 | refine below_set ?_ GE308.out) | exact HB.out)⟩
 ·replace c3 := Bool.eq_false_iff.mpr c3
  subst c3
  have H1 : (some y309) = some r := by rw [if_neg (show ¬ (false = true) by decide)] at H; exact H
  clear H
  have H := H1
  clear H1
  obtain rfl := Option.some.inj H
  go_enter Try.func25, Try.ntmps25
  go_wp2_with (first | ((with_reducible refine gate_dst (N := 1) rfl ?_); refine box_event ?hg (N := 1) ?hd (cs := #[.int .i64 a0_0, .int .i64 a0_1, .slice A0_2 l0_2.length c0_2, .slice A0_3 l0_3.length c0_3]) (t := 25) ?hr ?_; (case hd => rfl); (case hg => rfl); (case hr => first | (go_simp; done) | (go_simp; rfl)); intro gb308 hg w26 hbox hb; have n0_ := asd (below_step (by repeat (first | (with_reducible first | exact HB.out | apply below_alloc | apply pw_below_drewN | apply below_drew1) | exact HB.out)) hb); have n1_ := asd (hbox); have n2_ := asd ((by rw [hg]; exact (below_size (by repeat (first | (with_reducible first | exact HB.out | apply below_alloc | apply pw_below_drewN | apply below_drew1) | exact HB.out))) : w.heap.size ≤ gb308)); have n3_ := asd ((by rw [hg]; exact (below_size (by repeat (first | (with_reducible first | exact HB.out | apply below_alloc | apply pw_below_drewN | apply below_drew1) | exact HB.out))) : w.heap.size ≤ gb308)); clear HB; have HB := n0_; have BK308 := n1_; have GW308 := n2_; have GE308 := n3_; clear n0_ n1_ n2_ n3_; clear hb hbox hg) | ((with_reducible refine gate_dst (N := 7) rfl ?_); refine Kd.R_lit Kd.bool _ 4 ?hg (N := 7) ?hd (xs := ([] : List Bool)) (inner := []) (ok := fun _ => True) (okp := fun _ => True) ?hr ?hp (fun _ hk => hk) trivial (Below.refl _ _) (Nat.le_refl _) (by simp) ?_; (case hd => rfl); (case hg => rfl); (case hr => first | (go_simp; done) | (go_simp; rfl)); (case hp => exact (Reps.none _ _)); intro v310 w27 ho28 hb hg_ hnew_; clear hg_ hnew_; (first | rw [← Ny309.out] at ho28 | (simp only [Int.reduceToNat] at ho28; rw [← Ny309.out] at ho28)); have n0_ := asd (Kd.R_lower ho28 (below_size (by repeat (first | (with_reducible first | exact HB.out | apply below_alloc | apply pw_below_drewN | apply below_drew1 | refine below_set ?_ GE308.out) | exact HB.out)))); have n1_ := asd (blk_below (g := gb308) (o := .cells #[.int .i64 a0_0, .int .i64 a0_1, .slice A0_2 l0_2.length c0_2, .slice A0_3 l0_3.length c0_3] 25 (0, 0)) (by (with_reducible repeat (first | refine blk_drewN ?_ _ | refine blk_drew ?_ | refine blk_alloc ?_ _)); exact BK308.out) hb); have n2_ := asd (below_step (by repeat (first | (with_reducible first | exact HB.out | apply below_alloc | apply pw_below_drewN | apply below_drew1 | refine below_set ?_ GE308.out) | exact HB.out)) hb); clear BK308 HB; have HO311 := n0_; have BK308 := n1_; have HB := n2_; clear n0_ n1_ n2_ hb ho28; have hcz29_0 : w27.cell? ⟨gb308, 0, none⟩ = some (.int .i64 a0_0) := (blk_cell BK308.out 0).trans rfl; have hcz29_1 : w27.cell? ⟨gb308, 1, none⟩ = some (.int .i64 a0_1) := (blk_cell BK308.out 1).trans rfl; have hcz29_2 : w27.cell? ⟨gb308, 2, none⟩ = some (.slice A0_2 l0_2.length c0_2) := (blk_cell BK308.out 2).trans rfl; have hcz29_3 : w27.cell? ⟨gb308, 3, none⟩ = some (.slice A0_3 l0_3.length c0_3) := (blk_cell BK308.out 3).trans rfl; have hfz29_0 := blk_frozen BK308.out 0; have hfz29_1 := blk_frozen BK308.out 1; have hfz29_2 := blk_frozen BK308.out 2; have hfz29_3 := blk_frozen BK308.out 3) | ((with_reducible refine gate_callee (f := 49) rfl ?_); refine goesL_ (some 9) rfl rfl Try.func49 (by kernel_rfl) rfl #[.agg #[.int .i64 a0_0, .int .i64 a0_1, .slice A0_2 l0_2.length c0_2, .slice A0_3 l0_3.length c0_3]] rfl (by (try simp only [List.map_toArray, List.map_cons, List.map_nil]); first | done | rfl | (simp only [List.length_drop, List.length_take]; rfl)) ?_; (with_reducible refine (spec_LoopClosed.calls k a0_0 a0_1 _ _ l0_2 _ _ l0_3 false _ ?side1 ?side2 ?side3 ?side4 A2.out).mono ?_); (case side1 => repeat (first | exact (Kd.C_below HR0_2.out HB.out) | (with_reducible refine Kd.C_alloc ?_ _) | (with_reducible refine Kd.C_drewN ?_ _) | (with_reducible refine Kd.C_drew ?_))); (case side2 => exact HC0_2.out); (case side3 => repeat (first | exact (Kd.C_below HR0_3.out HB.out) | (with_reducible refine Kd.C_alloc ?_ _) | (with_reducible refine Kd.C_drewN ?_ _) | (with_reducible refine Kd.C_drew ?_))); (case side4 => exact HC0_3.out); rintro e w30 ⟨rfl, hb⟩; refine ⟨_, rfl, ?_⟩; have n0_ := asd (Kd.R_below (by (with_reducible repeat (first | apply Kd.R_alloc | apply Kd.R_drewN | apply Kd.R_drew)); exact HO311.out) hb); have n1_ := asd (blk_below (g := gb308) (o := .cells #[.int .i64 a0_0, .int .i64 a0_1, .slice A0_2 l0_2.length c0_2, .slice A0_3 l0_3.length c0_3] 25 (0, 0)) (by (with_reducible repeat (first | refine blk_drewN ?_ _ | refine blk_drew ?_ | refine blk_alloc ?_ _)); exact BK308.out) hb); have n2_ := asd (below_step (by repeat (first | (with_reducible first | exact HB.out | apply below_alloc | apply pw_below_drewN | apply below_drew1 | refine below_set ?_ GE308.out) | exact HB.out)) hb); clear HO311 BK308 HB; have HO311 := n0_; have BK308 := n1_; have HB := n2_; clear n0_ n1_ n2_))
  go_ret
  exact ⟨_, by first | rfl | (simp [errW_none, errW_some] <;> rfl) | (simp [*, errW_none, errW_some] <;> rfl), by (with_reducible repeat (first | apply Kd.R_alloc | apply Kd.R_drewN | apply Kd.R_drew)); exact HO311.out, by repeat (first | (with_reducible first | exact HB.out | apply below_alloc | apply pw_below_drewN | apply below_drew1 | refine below_set ?_ GE308.out) | exact HB.out)⟩

end Go.Proofs.Ytncmneliinbjdaa.PMk
