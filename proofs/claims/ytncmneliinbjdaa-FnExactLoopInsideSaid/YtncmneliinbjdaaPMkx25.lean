/- Functions of the program, and what a call comes to. No conditions. -/
import Derived.Test.YtncmneliinbjdaaPMkx0
import Derived.Test.YtncmneliinbjdaaPMkx22
import Derived.Test.YtncmneliinbjdaaPMkx23
import Derived.Test.YtncmneliinbjdaaPMkx24
namespace Go.Proofs.Ytncmneliinbjdaa.PMk
open Go.RowKit Go.Proofs.YtncmneliinbjdaaW.PrintWords Go.Proofs.YtncmneliinbjdaaW.PrintLast Go.Proofs.YtncmneliinbjdaaW.PrintMore
set_option linter.unusedVariables false
set_option linter.unusedSimpArgs false

/-! ### spec_LoopClosed: function 49 -/
mutual
def spec_LoopClosed.l0 : Nat → Int → Int → Int → Int → List (List Bool) → List (List Bool) → Option (Bool)
 | 0, _, _, _, _, _, _ => none
 | k + 1, x3, x4, x305000, x305001, x305002, x305003 => if x4 ≤ x305000 then (spec_LoopClosed.j1 k x3 x4 (decide (x3 > 0)) x305000 x305001 x305002 x305003) else (spec_LoopClosed.j1 k x3 x4 false x305000 x305001 x305002 x305003)
def spec_LoopClosed.j1 : Nat → Int → Int → Bool → Int → Int → List (List Bool) → List (List Bool) → Option (Bool)
 | 0, _, _, _, _, _, _, _ => none
 | k + 1, x3, x4, x16, x305000, x305001, x305002, x305003 => if x16 = true then (spec_LoopClosed.l1 k x3 x4 0 x305000 x305001 x305002 x305003) else (some (decide (x3 > 0)))
def spec_LoopClosed.l1 : Nat → Int → Int → Int → Int → Int → List (List Bool) → List (List Bool) → Option (Bool)
 | 0, _, _, _, _, _, _, _ => none
 | k + 1, x3, x4, x5, x305000, x305001, x305002, x305003 => if x5 ≤ x305001 then ((spec_l17Degree.f k x305000 x305001 x305002 x305003 x4 x5).bind fun t306 => (if t306 = 0 then (spec_LoopClosed.l1 k x3 x4 (wrap64 (x5 + 1)) x305000 x305001 x305002 x305003) else (if t306 = 2 then ((spec_l17Reach.f k x305000 x305001 x305002 x305003 x4 x5).bind fun t307 => (if t307 = x3 then (spec_LoopClosed.l1 k x3 x4 (wrap64 (x5 + 1)) x305000 x305001 x305002 x305003) else (some false))) else (some false)))) else (spec_LoopClosed.l0 k x3 (wrap64 (x4 + 1)) x305000 x305001 x305002 x305003)
end
def spec_LoopClosed.f (k : Nat) (a0_0 : Int) (a0_1 : Int) (l0_2 : List (List Bool)) (l0_3 : List (List Bool)) : Option (Bool) := (spec_LoopLength.f k a0_0 a0_1 l0_2 l0_3).bind fun t305 => (spec_LoopClosed.l0 k t305 0 a0_0 a0_1 l0_2 l0_3)
theorem spec_LoopClosed.mono_l : ∀ k, (∀ y0 y1 y2 y3 y4 y5, LeO (spec_LoopClosed.l0 k y0 y1 y2 y3 y4 y5) (spec_LoopClosed.l0 (k + 1) y0 y1 y2 y3 y4 y5)) ∧ (∀ y0 y1 y2 y3 y4 y5 y6, LeO (spec_LoopClosed.j1 k y0 y1 y2 y3 y4 y5 y6) (spec_LoopClosed.j1 (k + 1) y0 y1 y2 y3 y4 y5 y6)) ∧ (∀ y0 y1 y2 y3 y4 y5 y6, LeO (spec_LoopClosed.l1 k y0 y1 y2 y3 y4 y5 y6) (spec_LoopClosed.l1 (k + 1) y0 y1 y2 y3 y4 y5 y6))
 | 0 => ⟨fun _ _ _ _ _ _ r h => by simp [spec_LoopClosed.l0] at h, fun _ _ _ _ _ _ _ r h => by simp [spec_LoopClosed.j1] at h, fun _ _ _ _ _ _ _ r h => by simp [spec_LoopClosed.l1] at h⟩
 | k + 1 => by
  obtain ⟨ih0, ih1, ih2⟩ := spec_LoopClosed.mono_l k
  refine ⟨?_, ?_, ?_⟩
  ·intro y0 y1 y2 y3 y4 y5
   unfold spec_LoopClosed.l0
   repeat' first | (with_reducible first | exact ih0 _ _ _ _ _ _ | exact ih1 _ _ _ _ _ _ _ | exact ih2 _ _ _ _ _ _ _ | exact spec_LoopLength.mono _ _ _ _ _ | exact spec_l17Degree.mono _ _ _ _ _ _ _ | exact spec_l17Reach.mono _ _ _ _ _ _ _ | exact LeO.refl _ | exact LeO.none _ | refine LeO.ite ?_ ?_ | refine LeO.bind ?_ (fun _ => ?_)) | exact LeO.none _ | refine LeO.ite ?_ ?_ | refine LeO.bind ?_ (fun _ => ?_)
  ·intro y0 y1 y2 y3 y4 y5 y6
   unfold spec_LoopClosed.j1
   repeat' first | (with_reducible first | exact ih0 _ _ _ _ _ _ | exact ih1 _ _ _ _ _ _ _ | exact ih2 _ _ _ _ _ _ _ | exact spec_LoopLength.mono _ _ _ _ _ | exact spec_l17Degree.mono _ _ _ _ _ _ _ | exact spec_l17Reach.mono _ _ _ _ _ _ _ | exact LeO.refl _ | exact LeO.none _ | refine LeO.ite ?_ ?_ | refine LeO.bind ?_ (fun _ => ?_)) | exact LeO.none _ | refine LeO.ite ?_ ?_ | refine LeO.bind ?_ (fun _ => ?_)
  ·intro y0 y1 y2 y3 y4 y5 y6
   unfold spec_LoopClosed.l1
   repeat' first | (with_reducible first | exact ih0 _ _ _ _ _ _ | exact ih1 _ _ _ _ _ _ _ | exact ih2 _ _ _ _ _ _ _ | exact spec_LoopLength.mono _ _ _ _ _ | exact spec_l17Degree.mono _ _ _ _ _ _ _ | exact spec_l17Reach.mono _ _ _ _ _ _ _ | exact LeO.refl _ | exact LeO.none _ | refine LeO.ite ?_ ?_ | refine LeO.bind ?_ (fun _ => ?_)) | exact LeO.none _ | refine LeO.ite ?_ ?_ | refine LeO.bind ?_ (fun _ => ?_)
theorem spec_LoopClosed.mono : ∀ a0 a1 a2 a3 k, LeO (spec_LoopClosed.f k a0 a1 a2 a3) (spec_LoopClosed.f (k + 1) a0 a1 a2 a3) := by
 intro a0 a1 a2 a3 k
 obtain ⟨ih0, ih1, ih2⟩ := spec_LoopClosed.mono_l k
 unfold spec_LoopClosed.f
 repeat' first | (with_reducible first | exact ih0 _ _ _ _ _ _ | exact ih1 _ _ _ _ _ _ _ | exact ih2 _ _ _ _ _ _ _ | exact spec_LoopLength.mono _ _ _ _ _ | exact spec_l17Degree.mono _ _ _ _ _ _ _ | exact spec_l17Reach.mono _ _ _ _ _ _ _ | exact LeO.refl _ | exact LeO.none _ | refine LeO.ite ?_ ?_ | refine LeO.bind ?_ (fun _ => ?_)) | exact LeO.none _ | refine LeO.ite ?_ ?_ | refine LeO.bind ?_ (fun _ => ?_)
set_option maxHeartbeats 8000000 in
set_option maxRecDepth 100000 in
theorem spec_LoopClosed.calls (k : Nat) (a0_0 : Int) (a0_1 : Int) (A0_2 : Option Addr) (c0_2 : Nat) (l0_2 : List (List Bool)) (A0_3 : Option Addr) (c0_3 : Nat) (l0_3 : List (List Bool)) (r : Bool) (w : World) (hr0_2 : Kd.C (Kd.slice 4 Kd.bool) w A0_2 l0_2.length l0_2) (hc0_2 : l0_2.length ≤ c0_2) (hr0_3 : Kd.C (Kd.slice 4 Kd.bool) w A0_3 l0_3.length l0_3) (hc0_3 : l0_3.length ≤ c0_3) (h : spec_LoopClosed.f k a0_0 a0_1 l0_2 l0_3 = some r) :
  Calls Try.prog 49 #[.agg #[.int .i64 a0_0, .int .i64 a0_1, .slice A0_2 l0_2.length c0_2, .slice A0_3 l0_3.length c0_3]] w fun e w' => e = .returned (.bool r) ∧ Below w.heap.size w w' := by
 have hu25 := Try.underlying25
 have HR0_2 := asd hr0_2
 have HC0_2 := asd hc0_2
 clear hr0_2 hc0_2
 have HR0_3 := asd hr0_3
 have HC0_3 := asd hc0_3
 clear hr0_3 hc0_3
 have HB := asd (Below.refl w.heap.size w)
 have H : ((spec_LoopLength.f k a0_0 a0_1 l0_2 l0_3).bind fun t305 => (spec_LoopClosed.l0 k t305 0 a0_0 a0_1 l0_2 l0_3)) = some r := h
 clear h
 replace H := Option.bind_eq_some_iff.mp H
 obtain ⟨t305, A20, H⟩ := H
 replace H : (spec_LoopClosed.l0 k t305 0 a0_0 a0_1 l0_2 l0_3) = some r := H
 have A2 := asd A20
 clear A20
 have H' := asd H
 clear H
 go_enter Try.func49, Try.ntmps49
 go_wp2_with (first | ((with_reducible refine gate_dst (N := 1) rfl ?_); refine box_event ?hg (N := 1) ?hd (cs := #[.int .i64 a0_0, .int .i64 a0_1, .slice A0_2 l0_2.length c0_2, .slice A0_3 l0_3.length c0_3]) (t := 25) ?hr ?_; (case hd => rfl); (case hg => rfl); (case hr => first | (go_simp; done) | (go_simp; rfl)); intro gb304 hg w3 hbox hb; have n0_ := asd (below_step (by repeat (first | (with_reducible first | exact HB.out | apply below_alloc | apply pw_below_drewN | apply below_drew1) | exact HB.out)) hb); have n1_ := asd (hbox); have n2_ := asd ((by rw [hg]; exact (below_size (by repeat (first | (with_reducible first | exact HB.out | apply below_alloc | apply pw_below_drewN | apply below_drew1) | exact HB.out))) : w.heap.size ≤ gb304)); have n3_ := asd ((by rw [hg]; exact (below_size (by repeat (first | (with_reducible first | exact HB.out | apply below_alloc | apply pw_below_drewN | apply below_drew1) | exact HB.out))) : w.heap.size ≤ gb304)); clear HB; have HB := n0_; have BK304 := n1_; have GW304 := n2_; have GE304 := n3_; clear n0_ n1_ n2_ n3_ hb hbox hg; have hcz4_0 : w3.cell? ⟨gb304, 0, none⟩ = some (.int .i64 a0_0) := (blk_cell BK304.out 0).trans rfl; have hcz4_1 : w3.cell? ⟨gb304, 1, none⟩ = some (.int .i64 a0_1) := (blk_cell BK304.out 1).trans rfl; have hcz4_2 : w3.cell? ⟨gb304, 2, none⟩ = some (.slice A0_2 l0_2.length c0_2) := (blk_cell BK304.out 2).trans rfl; have hcz4_3 : w3.cell? ⟨gb304, 3, none⟩ = some (.slice A0_3 l0_3.length c0_3) := (blk_cell BK304.out 3).trans rfl; have hfz4_0 := blk_frozen BK304.out 0; have hfz4_1 := blk_frozen BK304.out 1; have hfz4_2 := blk_frozen BK304.out 2; have hfz4_3 := blk_frozen BK304.out 3) | ((with_reducible refine gate_callee (f := 62) rfl ?_); refine goesL_ (some 8) rfl rfl Try.func62 (by kernel_rfl) rfl #[.agg #[.int .i64 a0_0, .int .i64 a0_1, .slice A0_2 l0_2.length c0_2, .slice A0_3 l0_3.length c0_3]] rfl (by (try simp only [List.map_toArray, List.map_cons, List.map_nil]); first | done | rfl | (simp only [List.length_drop, List.length_take]; rfl)) ?_; (with_reducible refine (spec_LoopLength.calls k a0_0 a0_1 _ _ l0_2 _ _ l0_3 t305 _ ?side1 ?side2 ?side3 ?side4 A2.out).mono ?_); (case side1 => repeat (first | exact (Kd.C_below HR0_2.out HB.out) | (with_reducible refine Kd.C_alloc ?_ _) | (with_reducible refine Kd.C_drewN ?_ _) | (with_reducible refine Kd.C_drew ?_))); (case side2 => exact HC0_2.out); (case side3 => repeat (first | exact (Kd.C_below HR0_3.out HB.out) | (with_reducible refine Kd.C_alloc ?_ _) | (with_reducible refine Kd.C_drewN ?_ _) | (with_reducible refine Kd.C_drew ?_))); (case side4 => exact HC0_3.out); rintro e w5 ⟨rfl, hb⟩; refine ⟨_, rfl, ?_⟩; have n0_ := asd (blk_below (g := gb304) (o := .cells #[.int .i64 a0_0, .int .i64 a0_1, .slice A0_2 l0_2.length c0_2, .slice A0_3 l0_3.length c0_3] 25 (0, 0)) (by (with_reducible repeat (first | refine blk_drewN ?_ _ | refine blk_drew ?_ | refine blk_alloc ?_ _)); exact BK304.out) hb); have n1_ := asd (below_step (by repeat (first | (with_reducible first | exact HB.out | apply below_alloc | apply pw_below_drewN | apply below_drew1 | refine below_set ?_ GE304.out) | exact HB.out)) hb); clear BK304 HB; have BK304 := n0_; have HB := n1_; clear n0_ n1_))
 go_loopg [4] k (fun kq v4 w' => ∃ (x4_1 : Int), v4 = .int .i64 x4_1 ∧ Aside0 (spec_LoopClosed.l0 kq t305 x4_1 a0_0 a0_1 l0_2 l0_3 = some r) ∧ Aside0 (kq ≤ k) ∧ Aside0 (w'.heap[gb304]? = some (.cells #[.int .i64 a0_0, .int .i64 a0_1, (.slice A0_2 l0_2.length c0_2), (.slice A0_3 l0_3.length c0_3)] 25 (0, 0))) ∧ Aside0 (Below w.heap.size w w'))
 case atStart => exact ⟨(0), (by first | rfl | (simp; done) | (simp [*]; done)), H', ⟨Nat.le_refl _⟩, ⟨by (with_reducible repeat (first | refine blk_drewN ?_ _ | refine blk_drew ?_ | refine blk_alloc ?_ _)); exact BK304.out⟩, ⟨by repeat (first | (with_reducible first | exact HB.out | apply below_alloc | apply pw_below_drewN | apply below_drew1 | refine below_set ?_ GE304.out) | exact HB.out)⟩⟩
 case round =>
  clear H'; try clear p2; try clear c4; try clear hcz4_0; try clear hcz4_1; try clear hcz4_2; try clear hcz4_3; try clear hfz4_0; try clear hfz4_1; try clear hfz4_2; try clear hfz4_3
  obtain ⟨x4_1, rfl, HA, HK1, BK304, HB⟩ := hrel
  cases gk with
  | zero => exact absurd HA.out (by simp [spec_LoopClosed.l0])
  | succ k1 =>
   have H := HA.out
   clear HA
   simp only [spec_LoopClosed.l0] at H
   have HC6 := asd H
   clear H
   go_upto_region 3 with (fail)
   go_cut [16] (fun v16 wc => ∃ (kq : Nat) (x16_5 : Bool), v16 = .bool x16_5 ∧ Aside0 (spec_LoopClosed.j1 kq t305 x4_1 x16_5 a0_0 a0_1 l0_2 l0_3 = some r) ∧ Aside0 (kq ≤ k1) ∧ Aside0 (wc.heap[gb304]? = some (.cells #[.int .i64 a0_0, .int .i64 a0_1, (.slice A0_2 l0_2.length c0_2), (.slice A0_3 l0_3.length c0_3)] 25 (0, 0))) ∧ Aside0 (Below w.heap.size w wc))
   case first =>
    have H := HC6.out
    clear HC6
    by_cases c7 : x4_1 ≤ a0_0
    ·rw [if_pos c7] at H
     have c7b0 : decide (x4_1 ≤ a0_0) = true := decide_eq_true c7
     clear c7
     (first | rw [c7b0] | (simp only [i64_w, i32_w]; rw [c7b0]) | skip)
     have H' := asd H
     clear H
     have hcz8_0 : wr.cell? ⟨gb304, 0, none⟩ = some (.int .i64 a0_0) := (blk_cell BK304.out 0).trans rfl
     have hcz8_1 : wr.cell? ⟨gb304, 1, none⟩ = some (.int .i64 a0_1) := (blk_cell BK304.out 1).trans rfl
     have hcz8_2 : wr.cell? ⟨gb304, 2, none⟩ = some (.slice A0_2 l0_2.length c0_2) := (blk_cell BK304.out 2).trans rfl
     have hcz8_3 : wr.cell? ⟨gb304, 3, none⟩ = some (.slice A0_3 l0_3.length c0_3) := (blk_cell BK304.out 3).trans rfl
     have hfz8_0 := blk_frozen BK304.out 0
     have hfz8_1 := blk_frozen BK304.out 1
     have hfz8_2 := blk_frozen BK304.out 2
     have hfz8_3 := blk_frozen BK304.out 3
     go_wp2
     go_meet
     case rel => exact ⟨_, (decide (t305 > 0)), (by first | rfl | (simp; done) | (simp [*]; done)), H', ⟨by have := HK1.out; first | omega | exact Nat.le_refl _⟩, ⟨by (with_reducible repeat (first | refine blk_drewN ?_ _ | refine blk_drew ?_ | refine blk_alloc ?_ _)); exact BK304.out⟩, ⟨by repeat (first | (with_reducible first | exact HB.out | apply below_alloc | apply pw_below_drewN | apply below_drew1 | refine below_set ?_ GE304.out) | exact HB.out)⟩⟩
    ·rw [if_neg c7] at H
     have c7b0 : decide (x4_1 ≤ a0_0) = false := decide_eq_false c7
     clear c7
     (first | rw [c7b0] | (simp only [i64_w, i32_w]; rw [c7b0]) | skip)
     have H' := asd H
     clear H
     have hcz9_0 : wr.cell? ⟨gb304, 0, none⟩ = some (.int .i64 a0_0) := (blk_cell BK304.out 0).trans rfl
     have hcz9_1 : wr.cell? ⟨gb304, 1, none⟩ = some (.int .i64 a0_1) := (blk_cell BK304.out 1).trans rfl
     have hcz9_2 : wr.cell? ⟨gb304, 2, none⟩ = some (.slice A0_2 l0_2.length c0_2) := (blk_cell BK304.out 2).trans rfl
     have hcz9_3 : wr.cell? ⟨gb304, 3, none⟩ = some (.slice A0_3 l0_3.length c0_3) := (blk_cell BK304.out 3).trans rfl
     have hfz9_0 := blk_frozen BK304.out 0
     have hfz9_1 := blk_frozen BK304.out 1
     have hfz9_2 := blk_frozen BK304.out 2
     have hfz9_3 := blk_frozen BK304.out 3
     go_wp2
     go_meet
     case rel => exact ⟨_, (false), (by first | rfl | (simp; done) | (simp [*]; done)), H', ⟨by have := HK1.out; first | omega | exact Nat.le_refl _⟩, ⟨by (with_reducible repeat (first | refine blk_drewN ?_ _ | refine blk_drew ?_ | refine blk_alloc ?_ _)); exact BK304.out⟩, ⟨by repeat (first | (with_reducible first | exact HB.out | apply below_alloc | apply pw_below_drewN | apply below_drew1 | refine below_set ?_ GE304.out) | exact HB.out)⟩⟩
   case rest =>
    clear HC6; try clear c6; try clear c7; try clear c7b0; try clear hcz8_0; try clear hcz8_1; try clear hcz8_2; try clear hcz8_3; try clear hcz9_0; try clear hcz9_1; try clear hcz9_2; try clear hcz9_3; try clear hfz8_0; try clear hfz8_1; try clear hfz8_2; try clear hfz8_3; try clear hfz9_0; try clear hfz9_1; try clear hfz9_2; try clear hfz9_3
    obtain ⟨kq, x16_5, rfl, HA, HJ5, BK304, HB⟩ := hcut
    cases kq with
    | zero => exact absurd HA.out (by simp [spec_LoopClosed.j1])
    | succ kj5 =>
     have H := HA.out
     clear HA
     simp only [spec_LoopClosed.j1] at H
     by_cases c10 : x16_5 = true
     ·subst c10
      have H1 : (spec_LoopClosed.l1 kj5 t305 x4_1 0 a0_0 a0_1 l0_2 l0_3) = some r := by rw [if_pos rfl] at H; exact H
      clear H
      have H := H1
      clear H1
      have H' := asd H
      clear H
      go_wp2
      go_loopg [5] kj5 (fun kq v5 w' => ∃ (x5_3 : Int), v5 = .int .i64 x5_3 ∧ Aside0 (spec_LoopClosed.l1 kq t305 x4_1 x5_3 a0_0 a0_1 l0_2 l0_3 = some r) ∧ Aside0 (kq ≤ kj5) ∧ Aside0 (w'.heap[gb304]? = some (.cells #[.int .i64 a0_0, .int .i64 a0_1, (.slice A0_2 l0_2.length c0_2), (.slice A0_3 l0_3.length c0_3)] 25 (0, 0))) ∧ Aside0 (Below w.heap.size w w'))
      case atStart => exact ⟨(0), (by first | rfl | (simp; done) | (simp [*]; done)), H', ⟨Nat.le_refl _⟩, ⟨by (with_reducible repeat (first | refine blk_drewN ?_ _ | refine blk_drew ?_ | refine blk_alloc ?_ _)); exact BK304.out⟩, ⟨by repeat (first | (with_reducible first | exact HB.out | apply below_alloc | apply pw_below_drewN | apply below_drew1 | refine below_set ?_ GE304.out) | exact HB.out)⟩⟩
      case round =>
       clear H'; try clear c1; try clear c10
       obtain ⟨x5_3, rfl, HA, HK3, BK304, HB⟩ := hrel
       cases gk with
       | zero => exact absurd HA.out (by simp [spec_LoopClosed.l1])
       | succ k3 =>
        have H := HA.out
        clear HA
        simp only [spec_LoopClosed.l1] at H
        by_cases c11 : x5_3 ≤ a0_1
        ·rw [if_pos c11] at H
         have c11b0 : decide (x5_3 ≤ a0_1) = true := decide_eq_true c11
         clear c11
         replace H := Option.bind_eq_some_iff.mp H
         obtain ⟨t306, A120, H⟩ := H
         replace H : (if t306 = 0 then (spec_LoopClosed.l1 k3 t305 x4_1 (wrap64 (x5_3 + 1)) a0_0 a0_1 l0_2 l0_3) else (if t306 = 2 then ((spec_l17Reach.f k3 a0_0 a0_1 l0_2 l0_3 x4_1 x5_3).bind fun t307 => (if t307 = t305 then (spec_LoopClosed.l1 k3 t305 x4_1 (wrap64 (x5_3 + 1)) a0_0 a0_1 l0_2 l0_3) else (some false))) else (some false))) = some r := H
         have A12 := asd A120
         clear A120
         by_cases c13 : t306 = 0
         ·rw [if_pos c13] at H
          have c13b0 : (t306 == 0) = true := beq_iff_eq.mpr c13
          have c13b1 : (t306 != 0) = false := bne_eq_false_iff_eq.mpr c13
          clear c13
          have H' := asd H
          clear H
          have hcz14_0 : wr.cell? ⟨gb304, 0, none⟩ = some (.int .i64 a0_0) := (blk_cell BK304.out 0).trans rfl
          have hcz14_1 : wr.cell? ⟨gb304, 1, none⟩ = some (.int .i64 a0_1) := (blk_cell BK304.out 1).trans rfl
          have hcz14_2 : wr.cell? ⟨gb304, 2, none⟩ = some (.slice A0_2 l0_2.length c0_2) := (blk_cell BK304.out 2).trans rfl
          have hcz14_3 : wr.cell? ⟨gb304, 3, none⟩ = some (.slice A0_3 l0_3.length c0_3) := (blk_cell BK304.out 3).trans rfl
          have hfz14_0 := blk_frozen BK304.out 0
          have hfz14_1 := blk_frozen BK304.out 1
          have hfz14_2 := blk_frozen BK304.out 2
          have hfz14_3 := blk_frozen BK304.out 3
          go_wp2_with (first | ((with_reducible refine gate_callee (f := 63) rfl ?_); refine goesL_ (some 28) rfl rfl Try.func63 (by kernel_rfl) rfl #[.agg #[.int .i64 a0_0, .int .i64 a0_1, .slice A0_2 l0_2.length c0_2, .slice A0_3 l0_3.length c0_3], .int .i64 x4_1, .int .i64 x5_3] rfl (by (try simp only [List.map_toArray, List.map_cons, List.map_nil]); first | done | rfl | (simp only [List.length_drop, List.length_take]; rfl)) ?_; (with_reducible refine (spec_l17Degree.calls k3 a0_0 a0_1 _ _ l0_2 _ _ l0_3 x4_1 x5_3 t306 _ ?side1 ?side2 ?side3 ?side4 A12.out).mono ?_); (case side1 => repeat (first | exact (Kd.C_below HR0_2.out HB.out) | (with_reducible refine Kd.C_alloc ?_ _) | (with_reducible refine Kd.C_drewN ?_ _) | (with_reducible refine Kd.C_drew ?_))); (case side2 => exact HC0_2.out); (case side3 => repeat (first | exact (Kd.C_below HR0_3.out HB.out) | (with_reducible refine Kd.C_alloc ?_ _) | (with_reducible refine Kd.C_drewN ?_ _) | (with_reducible refine Kd.C_drew ?_))); (case side4 => exact HC0_3.out); rintro e w15 ⟨rfl, hb⟩; refine ⟨_, rfl, ?_⟩; have n0_ := asd (blk_below (g := gb304) (o := .cells #[.int .i64 a0_0, .int .i64 a0_1, .slice A0_2 l0_2.length c0_2, .slice A0_3 l0_3.length c0_3] 25 (0, 0)) (by (with_reducible repeat (first | refine blk_drewN ?_ _ | refine blk_drew ?_ | refine blk_alloc ?_ _)); exact BK304.out) hb); have n1_ := asd (below_step (by repeat (first | (with_reducible first | exact HB.out | apply below_alloc | apply pw_below_drewN | apply below_drew1 | refine below_set ?_ GE304.out) | exact HB.out)) hb); clear BK304 HB; have BK304 := n0_; have HB := n1_; clear n0_ n1_))
          go_roundg k3
          case measure => have := HK1.out; have := HJ5.out; have := HK3.out; omega
          case rel => exact ⟨(wrap64 (x5_3 + 1)), (by first | rfl | (simp; done) | (simp [*]; done)), H', ⟨by have := HK1.out; have := HJ5.out; have := HK3.out; omega⟩, ⟨by (with_reducible repeat (first | refine blk_drewN ?_ _ | refine blk_drew ?_ | refine blk_alloc ?_ _)); exact BK304.out⟩, ⟨by repeat (first | (with_reducible first | exact HB.out | apply below_alloc | apply pw_below_drewN | apply below_drew1 | refine below_set ?_ GE304.out) | exact HB.out)⟩⟩
         ·rw [if_neg c13] at H
          have c13b0 : (t306 == 0) = false := beq_eq_false_iff_ne.mpr c13
          have c13b1 : (t306 != 0) = true := bne_iff_ne.mpr c13
          by_cases c16 : t306 = 2
          ·rw [if_pos c16] at H
           have c16b0 : (t306 == 2) = true := beq_iff_eq.mpr c16
           have c16b1 : (t306 != 2) = false := bne_eq_false_iff_eq.mpr c16
           clear c16
           replace H := Option.bind_eq_some_iff.mp H
           obtain ⟨t307, A170, H⟩ := H
           replace H : (if t307 = t305 then (spec_LoopClosed.l1 k3 t305 x4_1 (wrap64 (x5_3 + 1)) a0_0 a0_1 l0_2 l0_3) else (some false)) = some r := H
           have A17 := asd A170
           clear A170
           by_cases c18 : t307 = t305
           ·rw [if_pos c18] at H
            have c18b0 : (t307 == t305) = true := beq_iff_eq.mpr c18
            have c18b1 : (t307 != t305) = false := bne_eq_false_iff_eq.mpr c18
            clear c18
            have H' := asd H
            clear H
            have hcz19_0 : wr.cell? ⟨gb304, 0, none⟩ = some (.int .i64 a0_0) := (blk_cell BK304.out 0).trans rfl
            have hcz19_1 : wr.cell? ⟨gb304, 1, none⟩ = some (.int .i64 a0_1) := (blk_cell BK304.out 1).trans rfl
            have hcz19_2 : wr.cell? ⟨gb304, 2, none⟩ = some (.slice A0_2 l0_2.length c0_2) := (blk_cell BK304.out 2).trans rfl
            have hcz19_3 : wr.cell? ⟨gb304, 3, none⟩ = some (.slice A0_3 l0_3.length c0_3) := (blk_cell BK304.out 3).trans rfl
            have hfz19_0 := blk_frozen BK304.out 0
            have hfz19_1 := blk_frozen BK304.out 1
            have hfz19_2 := blk_frozen BK304.out 2
            have hfz19_3 := blk_frozen BK304.out 3
            go_wp2_with (first | ((with_reducible refine gate_callee (f := 63) rfl ?_); refine goesL_ (some 28) rfl rfl Try.func63 (by kernel_rfl) rfl #[.agg #[.int .i64 a0_0, .int .i64 a0_1, .slice A0_2 l0_2.length c0_2, .slice A0_3 l0_3.length c0_3], .int .i64 x4_1, .int .i64 x5_3] rfl (by (try simp only [List.map_toArray, List.map_cons, List.map_nil]); first | done | rfl | (simp only [List.length_drop, List.length_take]; rfl)) ?_; (with_reducible refine (spec_l17Degree.calls k3 a0_0 a0_1 _ _ l0_2 _ _ l0_3 x4_1 x5_3 t306 _ ?side1 ?side2 ?side3 ?side4 A12.out).mono ?_); (case side1 => repeat (first | exact (Kd.C_below HR0_2.out HB.out) | (with_reducible refine Kd.C_alloc ?_ _) | (with_reducible refine Kd.C_drewN ?_ _) | (with_reducible refine Kd.C_drew ?_))); (case side2 => exact HC0_2.out); (case side3 => repeat (first | exact (Kd.C_below HR0_3.out HB.out) | (with_reducible refine Kd.C_alloc ?_ _) | (with_reducible refine Kd.C_drewN ?_ _) | (with_reducible refine Kd.C_drew ?_))); (case side4 => exact HC0_3.out); rintro e w20 ⟨rfl, hb⟩; refine ⟨_, rfl, ?_⟩; have n0_ := asd (blk_below (g := gb304) (o := .cells #[.int .i64 a0_0, .int .i64 a0_1, .slice A0_2 l0_2.length c0_2, .slice A0_3 l0_3.length c0_3] 25 (0, 0)) (by (with_reducible repeat (first | refine blk_drewN ?_ _ | refine blk_drew ?_ | refine blk_alloc ?_ _)); exact BK304.out) hb); have n1_ := asd (below_step (by repeat (first | (with_reducible first | exact HB.out | apply below_alloc | apply pw_below_drewN | apply below_drew1 | refine below_set ?_ GE304.out) | exact HB.out)) hb); clear BK304 HB; have BK304 := n0_; have HB := n1_; clear n0_ n1_; have hcz21_0 : w20.cell? ⟨gb304, 0, none⟩ = some (.int .i64 a0_0) := (blk_cell BK304.out 0).trans rfl; have hcz21_1 : w20.cell? ⟨gb304, 1, none⟩ = some (.int .i64 a0_1) := (blk_cell BK304.out 1).trans rfl; have hcz21_2 : w20.cell? ⟨gb304, 2, none⟩ = some (.slice A0_2 l0_2.length c0_2) := (blk_cell BK304.out 2).trans rfl; have hcz21_3 : w20.cell? ⟨gb304, 3, none⟩ = some (.slice A0_3 l0_3.length c0_3) := (blk_cell BK304.out 3).trans rfl; have hfz21_0 := blk_frozen BK304.out 0; have hfz21_1 := blk_frozen BK304.out 1; have hfz21_2 := blk_frozen BK304.out 2; have hfz21_3 := blk_frozen BK304.out 3) | (go_at_call 64; (with_reducible refine (spec_l17Reach.calls k3 a0_0 a0_1 _ _ l0_2 _ _ l0_3 x4_1 x5_3 t307 _ ?side1 ?side2 ?side3 ?side4 A17.out).mono ?_); (case side1 => repeat (first | exact (Kd.C_below HR0_2.out HB.out) | (with_reducible refine Kd.C_alloc ?_ _) | (with_reducible refine Kd.C_drewN ?_ _) | (with_reducible refine Kd.C_drew ?_))); (case side2 => exact HC0_2.out); (case side3 => repeat (first | exact (Kd.C_below HR0_3.out HB.out) | (with_reducible refine Kd.C_alloc ?_ _) | (with_reducible refine Kd.C_drewN ?_ _) | (with_reducible refine Kd.C_drew ?_))); (case side4 => exact HC0_3.out); rintro e w22 ⟨rfl, hb⟩; have n0_ := asd (blk_below (g := gb304) (o := .cells #[.int .i64 a0_0, .int .i64 a0_1, .slice A0_2 l0_2.length c0_2, .slice A0_3 l0_3.length c0_3] 25 (0, 0)) (by (with_reducible repeat (first | refine blk_drewN ?_ _ | refine blk_drew ?_ | refine blk_alloc ?_ _)); exact BK304.out) hb); have n1_ := asd (below_step (by repeat (first | (with_reducible first | exact HB.out | apply below_alloc | apply pw_below_drewN | apply below_drew1 | refine below_set ?_ GE304.out) | exact HB.out)) hb); clear BK304 HB; have BK304 := n0_; have HB := n1_; clear n0_ n1_))
            go_roundg k3
            case measure => have := HK1.out; have := HJ5.out; have := HK3.out; omega
            case rel => exact ⟨(wrap64 (x5_3 + 1)), (by first | rfl | (simp; done) | (simp [*]; done)), H', ⟨by have := HK1.out; have := HJ5.out; have := HK3.out; omega⟩, ⟨by (with_reducible repeat (first | refine blk_drewN ?_ _ | refine blk_drew ?_ | refine blk_alloc ?_ _)); exact BK304.out⟩, ⟨by repeat (first | (with_reducible first | exact HB.out | apply below_alloc | apply pw_below_drewN | apply below_drew1 | refine below_set ?_ GE304.out) | exact HB.out)⟩⟩
           ·rw [if_neg c18] at H
            have c18b0 : (t307 == t305) = false := beq_eq_false_iff_ne.mpr c18
            have c18b1 : (t307 != t305) = true := bne_iff_ne.mpr c18
            obtain rfl := Option.some.inj H
            have hcz23_0 : wr.cell? ⟨gb304, 0, none⟩ = some (.int .i64 a0_0) := (blk_cell BK304.out 0).trans rfl
            have hcz23_1 : wr.cell? ⟨gb304, 1, none⟩ = some (.int .i64 a0_1) := (blk_cell BK304.out 1).trans rfl
            have hcz23_2 : wr.cell? ⟨gb304, 2, none⟩ = some (.slice A0_2 l0_2.length c0_2) := (blk_cell BK304.out 2).trans rfl
            have hcz23_3 : wr.cell? ⟨gb304, 3, none⟩ = some (.slice A0_3 l0_3.length c0_3) := (blk_cell BK304.out 3).trans rfl
            have hfz23_0 := blk_frozen BK304.out 0
            have hfz23_1 := blk_frozen BK304.out 1
            have hfz23_2 := blk_frozen BK304.out 2
            have hfz23_3 := blk_frozen BK304.out 3
            go_wp2_with (first | ((with_reducible refine gate_callee (f := 63) rfl ?_); refine goesL_ (some 28) rfl rfl Try.func63 (by kernel_rfl) rfl #[.agg #[.int .i64 a0_0, .int .i64 a0_1, .slice A0_2 l0_2.length c0_2, .slice A0_3 l0_3.length c0_3], .int .i64 x4_1, .int .i64 x5_3] rfl (by (try simp only [List.map_toArray, List.map_cons, List.map_nil]); first | done | rfl | (simp only [List.length_drop, List.length_take]; rfl)) ?_; (with_reducible refine (spec_l17Degree.calls k3 a0_0 a0_1 _ _ l0_2 _ _ l0_3 x4_1 x5_3 t306 _ ?side1 ?side2 ?side3 ?side4 A12.out).mono ?_); (case side1 => repeat (first | exact (Kd.C_below HR0_2.out HB.out) | (with_reducible refine Kd.C_alloc ?_ _) | (with_reducible refine Kd.C_drewN ?_ _) | (with_reducible refine Kd.C_drew ?_))); (case side2 => exact HC0_2.out); (case side3 => repeat (first | exact (Kd.C_below HR0_3.out HB.out) | (with_reducible refine Kd.C_alloc ?_ _) | (with_reducible refine Kd.C_drewN ?_ _) | (with_reducible refine Kd.C_drew ?_))); (case side4 => exact HC0_3.out); rintro e w24 ⟨rfl, hb⟩; refine ⟨_, rfl, ?_⟩; have n0_ := asd (blk_below (g := gb304) (o := .cells #[.int .i64 a0_0, .int .i64 a0_1, .slice A0_2 l0_2.length c0_2, .slice A0_3 l0_3.length c0_3] 25 (0, 0)) (by (with_reducible repeat (first | refine blk_drewN ?_ _ | refine blk_drew ?_ | refine blk_alloc ?_ _)); exact BK304.out) hb); have n1_ := asd (below_step (by repeat (first | (with_reducible first | exact HB.out | apply below_alloc | apply pw_below_drewN | apply below_drew1 | refine below_set ?_ GE304.out) | exact HB.out)) hb); clear BK304 HB; have BK304 := n0_; have HB := n1_; clear n0_ n1_; have hcz25_0 : w24.cell? ⟨gb304, 0, none⟩ = some (.int .i64 a0_0) := (blk_cell BK304.out 0).trans rfl; have hcz25_1 : w24.cell? ⟨gb304, 1, none⟩ = some (.int .i64 a0_1) := (blk_cell BK304.out 1).trans rfl; have hcz25_2 : w24.cell? ⟨gb304, 2, none⟩ = some (.slice A0_2 l0_2.length c0_2) := (blk_cell BK304.out 2).trans rfl; have hcz25_3 : w24.cell? ⟨gb304, 3, none⟩ = some (.slice A0_3 l0_3.length c0_3) := (blk_cell BK304.out 3).trans rfl; have hfz25_0 := blk_frozen BK304.out 0; have hfz25_1 := blk_frozen BK304.out 1; have hfz25_2 := blk_frozen BK304.out 2; have hfz25_3 := blk_frozen BK304.out 3) | (go_at_call 64; (with_reducible refine (spec_l17Reach.calls k3 a0_0 a0_1 _ _ l0_2 _ _ l0_3 x4_1 x5_3 t307 _ ?side1 ?side2 ?side3 ?side4 A17.out).mono ?_); (case side1 => repeat (first | exact (Kd.C_below HR0_2.out HB.out) | (with_reducible refine Kd.C_alloc ?_ _) | (with_reducible refine Kd.C_drewN ?_ _) | (with_reducible refine Kd.C_drew ?_))); (case side2 => exact HC0_2.out); (case side3 => repeat (first | exact (Kd.C_below HR0_3.out HB.out) | (with_reducible refine Kd.C_alloc ?_ _) | (with_reducible refine Kd.C_drewN ?_ _) | (with_reducible refine Kd.C_drew ?_))); (case side4 => exact HC0_3.out); rintro e w26 ⟨rfl, hb⟩; have n0_ := asd (blk_below (g := gb304) (o := .cells #[.int .i64 a0_0, .int .i64 a0_1, .slice A0_2 l0_2.length c0_2, .slice A0_3 l0_3.length c0_3] 25 (0, 0)) (by (with_reducible repeat (first | refine blk_drewN ?_ _ | refine blk_drew ?_ | refine blk_alloc ?_ _)); exact BK304.out) hb); have n1_ := asd (below_step (by repeat (first | (with_reducible first | exact HB.out | apply below_alloc | apply pw_below_drewN | apply below_drew1 | refine below_set ?_ GE304.out) | exact HB.out)) hb); clear BK304 HB; have BK304 := n0_; have HB := n1_; clear n0_ n1_))
            go_ret
            exact ⟨by first | rfl | (simp [errW_none, errW_some] <;> rfl) | (simp [*, errW_none, errW_some] <;> rfl), by repeat (first | (with_reducible first | exact HB.out | apply below_alloc | apply pw_below_drewN | apply below_drew1 | refine below_set ?_ GE304.out) | exact HB.out)⟩
          ·rw [if_neg c16] at H
           have c16b0 : (t306 == 2) = false := beq_eq_false_iff_ne.mpr c16
           have c16b1 : (t306 != 2) = true := bne_iff_ne.mpr c16
           obtain rfl := Option.some.inj H
           have hcz27_0 : wr.cell? ⟨gb304, 0, none⟩ = some (.int .i64 a0_0) := (blk_cell BK304.out 0).trans rfl
           have hcz27_1 : wr.cell? ⟨gb304, 1, none⟩ = some (.int .i64 a0_1) := (blk_cell BK304.out 1).trans rfl
           have hcz27_2 : wr.cell? ⟨gb304, 2, none⟩ = some (.slice A0_2 l0_2.length c0_2) := (blk_cell BK304.out 2).trans rfl
           have hcz27_3 : wr.cell? ⟨gb304, 3, none⟩ = some (.slice A0_3 l0_3.length c0_3) := (blk_cell BK304.out 3).trans rfl
           have hfz27_0 := blk_frozen BK304.out 0
           have hfz27_1 := blk_frozen BK304.out 1
           have hfz27_2 := blk_frozen BK304.out 2
           have hfz27_3 := blk_frozen BK304.out 3
           go_wp2_with (first | ((with_reducible refine gate_callee (f := 63) rfl ?_); refine goesL_ (some 28) rfl rfl Try.func63 (by kernel_rfl) rfl #[.agg #[.int .i64 a0_0, .int .i64 a0_1, .slice A0_2 l0_2.length c0_2, .slice A0_3 l0_3.length c0_3], .int .i64 x4_1, .int .i64 x5_3] rfl (by (try simp only [List.map_toArray, List.map_cons, List.map_nil]); first | done | rfl | (simp only [List.length_drop, List.length_take]; rfl)) ?_; (with_reducible refine (spec_l17Degree.calls k3 a0_0 a0_1 _ _ l0_2 _ _ l0_3 x4_1 x5_3 t306 _ ?side1 ?side2 ?side3 ?side4 A12.out).mono ?_); (case side1 => repeat (first | exact (Kd.C_below HR0_2.out HB.out) | (with_reducible refine Kd.C_alloc ?_ _) | (with_reducible refine Kd.C_drewN ?_ _) | (with_reducible refine Kd.C_drew ?_))); (case side2 => exact HC0_2.out); (case side3 => repeat (first | exact (Kd.C_below HR0_3.out HB.out) | (with_reducible refine Kd.C_alloc ?_ _) | (with_reducible refine Kd.C_drewN ?_ _) | (with_reducible refine Kd.C_drew ?_))); (case side4 => exact HC0_3.out); rintro e w28 ⟨rfl, hb⟩; refine ⟨_, rfl, ?_⟩; have n0_ := asd (blk_below (g := gb304) (o := .cells #[.int .i64 a0_0, .int .i64 a0_1, .slice A0_2 l0_2.length c0_2, .slice A0_3 l0_3.length c0_3] 25 (0, 0)) (by (with_reducible repeat (first | refine blk_drewN ?_ _ | refine blk_drew ?_ | refine blk_alloc ?_ _)); exact BK304.out) hb); have n1_ := asd (below_step (by repeat (first | (with_reducible first | exact HB.out | apply below_alloc | apply pw_below_drewN | apply below_drew1 | refine below_set ?_ GE304.out) | exact HB.out)) hb); clear BK304 HB; have BK304 := n0_; have HB := n1_; clear n0_ n1_))
           go_ret
           exact ⟨by first | rfl | (simp [errW_none, errW_some] <;> rfl) | (simp [*, errW_none, errW_some] <;> rfl), by repeat (first | (with_reducible first | exact HB.out | apply below_alloc | apply pw_below_drewN | apply below_drew1 | refine below_set ?_ GE304.out) | exact HB.out)⟩
        ·rw [if_neg c11] at H
         have c11b0 : decide (x5_3 ≤ a0_1) = false := decide_eq_false c11
         clear c11
         have H' := asd H
         clear H
         have hcz29_0 : wr.cell? ⟨gb304, 0, none⟩ = some (.int .i64 a0_0) := (blk_cell BK304.out 0).trans rfl
         have hcz29_1 : wr.cell? ⟨gb304, 1, none⟩ = some (.int .i64 a0_1) := (blk_cell BK304.out 1).trans rfl
         have hcz29_2 : wr.cell? ⟨gb304, 2, none⟩ = some (.slice A0_2 l0_2.length c0_2) := (blk_cell BK304.out 2).trans rfl
         have hcz29_3 : wr.cell? ⟨gb304, 3, none⟩ = some (.slice A0_3 l0_3.length c0_3) := (blk_cell BK304.out 3).trans rfl
         have hfz29_0 := blk_frozen BK304.out 0
         have hfz29_1 := blk_frozen BK304.out 1
         have hfz29_2 := blk_frozen BK304.out 2
         have hfz29_3 := blk_frozen BK304.out 3
         go_wp2
         go_roundg k3
         case measure => have := HK1.out; have := HJ5.out; have := HK3.out; omega
         case rel => exact ⟨(wrap64 (x4_1 + 1)), (by first | rfl | (simp; done) | (simp [*]; done)), H', ⟨by have := HK1.out; have := HJ5.out; have := HK3.out; omega⟩, ⟨by (with_reducible repeat (first | refine blk_drewN ?_ _ | refine blk_drew ?_ | refine blk_alloc ?_ _)); exact BK304.out⟩, ⟨by repeat (first | (with_reducible first | exact HB.out | apply below_alloc | apply pw_below_drewN | apply below_drew1 | refine below_set ?_ GE304.out) | exact HB.out)⟩⟩
     ·replace c10 := Bool.eq_false_iff.mpr c10
      subst c10
      have H1 : (some (decide (t305 > 0))) = some r := by rw [if_neg (show ¬ (false = true) by decide)] at H; exact H
      clear H
      have H := H1
      clear H1
      obtain rfl := Option.some.inj H
      go_wp2
      go_ret
      exact ⟨by first | rfl | (simp [errW_none, errW_some] <;> rfl) | (simp [*, errW_none, errW_some] <;> rfl), by repeat (first | (with_reducible first | exact HB.out | apply below_alloc | apply pw_below_drewN | apply below_drew1 | refine below_set ?_ GE304.out) | exact HB.out)⟩

end Go.Proofs.Ytncmneliinbjdaa.PMk
