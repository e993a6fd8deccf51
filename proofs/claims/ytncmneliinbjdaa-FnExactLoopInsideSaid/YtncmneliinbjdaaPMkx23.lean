/- Functions of the program, and what a call comes to. No conditions. -/
import Derived.Test.YtncmneliinbjdaaPMkx0
import Derived.Test.YtncmneliinbjdaaPMkx11
import Derived.Test.YtncmneliinbjdaaPMkx22
namespace Go.Proofs.Ytncmneliinbjdaa.PMk
open Go.RowKit Go.Proofs.YtncmneliinbjdaaW.PrintWords Go.Proofs.YtncmneliinbjdaaW.PrintLast Go.Proofs.YtncmneliinbjdaaW.PrintMore
set_option linter.unusedVariables false
set_option linter.unusedSimpArgs false

/-! ### spec_LoopLength: function 62 -/
mutual
def spec_LoopLength.l0 : Nat → Int → Int → Int → Int → List (List Bool) → List (List Bool) → Option (Int)
 | 0, _, _, _, _, _, _ => none
 | k + 1, x3, x4, x255000, x255001, x255002, x255003 => if x4 ≤ x255000 then (spec_LoopLength.l1 k x3 x4 0 x255000 x255001 x255002 x255003) else (some (wrap64 (Int.tdiv x3 2)))
def spec_LoopLength.l1 : Nat → Int → Int → Int → Int → Int → List (List Bool) → List (List Bool) → Option (Int)
 | 0, _, _, _, _, _, _, _ => none
 | k + 1, x3, x4, x5, x255000, x255001, x255002, x255003 => if x5 ≤ x255001 then ((spec_l17Degree.f k x255000 x255001 x255002 x255003 x4 x5).bind fun t256 => (spec_LoopLength.l1 k (wrap64 (x3 + t256)) x4 (wrap64 (x5 + 1)) x255000 x255001 x255002 x255003)) else (spec_LoopLength.l0 k x3 (wrap64 (x4 + 1)) x255000 x255001 x255002 x255003)
end
def spec_LoopLength.f (k : Nat) (a0_0 : Int) (a0_1 : Int) (l0_2 : List (List Bool)) (l0_3 : List (List Bool)) : Option (Int) := (spec_LoopValid.f k a0_0 a0_1 l0_2 l0_3).bind fun t255 => (if t255 = true then (spec_LoopLength.l0 k 0 0 a0_0 a0_1 l0_2 l0_3) else (some (-1)))
theorem spec_LoopLength.mono_l : ∀ k, (∀ y0 y1 y2 y3 y4 y5, LeO (spec_LoopLength.l0 k y0 y1 y2 y3 y4 y5) (spec_LoopLength.l0 (k + 1) y0 y1 y2 y3 y4 y5)) ∧ (∀ y0 y1 y2 y3 y4 y5 y6, LeO (spec_LoopLength.l1 k y0 y1 y2 y3 y4 y5 y6) (spec_LoopLength.l1 (k + 1) y0 y1 y2 y3 y4 y5 y6))
 | 0 => ⟨fun _ _ _ _ _ _ r h => by simp [spec_LoopLength.l0] at h, fun _ _ _ _ _ _ _ r h => by simp [spec_LoopLength.l1] at h⟩
 | k + 1 => by
  obtain ⟨ih0, ih1⟩ := spec_LoopLength.mono_l k
  refine ⟨?_, ?_⟩
  ·intro y0 y1 y2 y3 y4 y5
   unfold spec_LoopLength.l0
   repeat' first | (with_reducible first | exact ih0 _ _ _ _ _ _ | exact ih1 _ _ _ _ _ _ _ | exact spec_LoopValid.mono _ _ _ _ _ | exact spec_l17Degree.mono _ _ _ _ _ _ _ | exact LeO.refl _ | exact LeO.none _ | refine LeO.ite ?_ ?_ | refine LeO.bind ?_ (fun _ => ?_)) | exact LeO.none _ | refine LeO.ite ?_ ?_ | refine LeO.bind ?_ (fun _ => ?_)
  ·intro y0 y1 y2 y3 y4 y5 y6
   unfold spec_LoopLength.l1
   repeat' first | (with_reducible first | exact ih0 _ _ _ _ _ _ | exact ih1 _ _ _ _ _ _ _ | exact spec_LoopValid.mono _ _ _ _ _ | exact spec_l17Degree.mono _ _ _ _ _ _ _ | exact LeO.refl _ | exact LeO.none _ | refine LeO.ite ?_ ?_ | refine LeO.bind ?_ (fun _ => ?_)) | exact LeO.none _ | refine LeO.ite ?_ ?_ | refine LeO.bind ?_ (fun _ => ?_)
theorem spec_LoopLength.mono : ∀ a0 a1 a2 a3 k, LeO (spec_LoopLength.f k a0 a1 a2 a3) (spec_LoopLength.f (k + 1) a0 a1 a2 a3) := by
 intro a0 a1 a2 a3 k
 obtain ⟨ih0, ih1⟩ := spec_LoopLength.mono_l k
 unfold spec_LoopLength.f
 repeat' first | (with_reducible first | exact ih0 _ _ _ _ _ _ | exact ih1 _ _ _ _ _ _ _ | exact spec_LoopValid.mono _ _ _ _ _ | exact spec_l17Degree.mono _ _ _ _ _ _ _ | exact LeO.refl _ | exact LeO.none _ | refine LeO.ite ?_ ?_ | refine LeO.bind ?_ (fun _ => ?_)) | exact LeO.none _ | refine LeO.ite ?_ ?_ | refine LeO.bind ?_ (fun _ => ?_)
set_option maxHeartbeats 8000000 in
set_option maxRecDepth 100000 in
theorem spec_LoopLength.calls (k : Nat) (a0_0 : Int) (a0_1 : Int) (A0_2 : Option Addr) (c0_2 : Nat) (l0_2 : List (List Bool)) (A0_3 : Option Addr) (c0_3 : Nat) (l0_3 : List (List Bool)) (r : Int) (w : World) (hr0_2 : Kd.C (Kd.slice 4 Kd.bool) w A0_2 l0_2.length l0_2) (hc0_2 : l0_2.length ≤ c0_2) (hr0_3 : Kd.C (Kd.slice 4 Kd.bool) w A0_3 l0_3.length l0_3) (hc0_3 : l0_3.length ≤ c0_3) (h : spec_LoopLength.f k a0_0 a0_1 l0_2 l0_3 = some r) :
  Calls Try.prog 62 #[.agg #[.int .i64 a0_0, .int .i64 a0_1, .slice A0_2 l0_2.length c0_2, .slice A0_3 l0_3.length c0_3]] w fun e w' => e = .returned (.int .i64 r) ∧ Below w.heap.size w w' := by
 have hu25 := Try.underlying25
 have HR0_2 := asd hr0_2
 have HC0_2 := asd hc0_2
 clear hr0_2 hc0_2
 have HR0_3 := asd hr0_3
 have HC0_3 := asd hc0_3
 clear hr0_3 hc0_3
 have HB := asd (Below.refl w.heap.size w)
 have H : ((spec_LoopValid.f k a0_0 a0_1 l0_2 l0_3).bind fun t255 => (if t255 = true then (spec_LoopLength.l0 k 0 0 a0_0 a0_1 l0_2 l0_3) else (some (-1)))) = some r := h
 clear h
 replace H := Option.bind_eq_some_iff.mp H
 obtain ⟨t255, A20, H⟩ := H
 replace H : (if t255 = true then (spec_LoopLength.l0 k 0 0 a0_0 a0_1 l0_2 l0_3) else (some (-1))) = some r := H
 have A2 := asd A20
 clear A20
 by_cases c3 : t255 = true
 ·subst c3
  have H1 : (spec_LoopLength.l0 k 0 0 a0_0 a0_1 l0_2 l0_3) = some r := by rw [if_pos rfl] at H; exact H
  clear H
  have H := H1
  clear H1
  have H' := asd H
  clear H
  go_enter Try.func62, Try.ntmps62
  go_wp2_with (first | ((with_reducible refine gate_dst (N := 1) rfl ?_); refine box_event ?hg (N := 1) ?hd (cs := #[.int .i64 a0_0, .int .i64 a0_1, .slice A0_2 l0_2.length c0_2, .slice A0_3 l0_3.length c0_3]) (t := 25) ?hr ?_; (case hd => rfl); (case hg => rfl); (case hr => first | (go_simp; done) | (go_simp; rfl)); intro gb254 hg w4 hbox hb; have n0_ := asd (below_step (by repeat (first | (with_reducible first | exact HB.out | apply below_alloc | apply pw_below_drewN | apply below_drew1) | exact HB.out)) hb); have n1_ := asd (hbox); have n2_ := asd ((by rw [hg]; exact (below_size (by repeat (first | (with_reducible first | exact HB.out | apply below_alloc | apply pw_below_drewN | apply below_drew1) | exact HB.out))) : w.heap.size ≤ gb254)); have n3_ := asd ((by rw [hg]; exact (below_size (by repeat (first | (with_reducible first | exact HB.out | apply below_alloc | apply pw_below_drewN | apply below_drew1) | exact HB.out))) : w.heap.size ≤ gb254)); clear HB; have HB := n0_; have BK254 := n1_; have GW254 := n2_; have GE254 := n3_; clear n0_ n1_ n2_ n3_ hb hbox hg; have hcz5_0 : w4.cell? ⟨gb254, 0, none⟩ = some (.int .i64 a0_0) := (blk_cell BK254.out 0).trans rfl; have hcz5_1 : w4.cell? ⟨gb254, 1, none⟩ = some (.int .i64 a0_1) := (blk_cell BK254.out 1).trans rfl; have hcz5_2 : w4.cell? ⟨gb254, 2, none⟩ = some (.slice A0_2 l0_2.length c0_2) := (blk_cell BK254.out 2).trans rfl; have hcz5_3 : w4.cell? ⟨gb254, 3, none⟩ = some (.slice A0_3 l0_3.length c0_3) := (blk_cell BK254.out 3).trans rfl; have hfz5_0 := blk_frozen BK254.out 0; have hfz5_1 := blk_frozen BK254.out 1; have hfz5_2 := blk_frozen BK254.out 2; have hfz5_3 := blk_frozen BK254.out 3) | ((with_reducible refine gate_callee (f := 46) rfl ?_); refine goesL_ (some 7) rfl rfl Try.func46 (by kernel_rfl) rfl #[.agg #[.int .i64 a0_0, .int .i64 a0_1, .slice A0_2 l0_2.length c0_2, .slice A0_3 l0_3.length c0_3]] rfl (by (try simp only [List.map_toArray, List.map_cons, List.map_nil]); first | done | rfl | (simp only [List.length_drop, List.length_take]; rfl)) ?_; (with_reducible refine (spec_LoopValid.calls k a0_0 a0_1 _ _ l0_2 _ _ l0_3 true _ ?side1 ?side2 ?side3 ?side4 A2.out).mono ?_); (case side1 => repeat (first | exact (Kd.C_below HR0_2.out HB.out) | (with_reducible refine Kd.C_alloc ?_ _) | (with_reducible refine Kd.C_drewN ?_ _) | (with_reducible refine Kd.C_drew ?_))); (case side2 => exact HC0_2.out); (case side3 => repeat (first | exact (Kd.C_below HR0_3.out HB.out) | (with_reducible refine Kd.C_alloc ?_ _) | (with_reducible refine Kd.C_drewN ?_ _) | (with_reducible refine Kd.C_drew ?_))); (case side4 => exact HC0_3.out); rintro e w6 ⟨rfl, hb⟩; refine ⟨_, rfl, ?_⟩; have n0_ := asd (blk_below (g := gb254) (o := .cells #[.int .i64 a0_0, .int .i64 a0_1, .slice A0_2 l0_2.length c0_2, .slice A0_3 l0_3.length c0_3] 25 (0, 0)) (by (with_reducible repeat (first | refine blk_drewN ?_ _ | refine blk_drew ?_ | refine blk_alloc ?_ _)); exact BK254.out) hb); have n1_ := asd (below_step (by repeat (first | (with_reducible first | exact HB.out | apply below_alloc | apply pw_below_drewN | apply below_drew1 | refine below_set ?_ GE254.out) | exact HB.out)) hb); clear BK254 HB; have BK254 := n0_; have HB := n1_; clear n0_ n1_))
  go_loopg [3, 4] k (fun kq v3 v4 w' => ∃ (x3_1 : Int) (x4_1 : Int), v3 = .int .i64 x3_1 ∧ v4 = .int .i64 x4_1 ∧ Aside0 (spec_LoopLength.l0 kq x3_1 x4_1 a0_0 a0_1 l0_2 l0_3 = some r) ∧ Aside0 (kq ≤ k) ∧ Aside0 (w'.heap[gb254]? = some (.cells #[.int .i64 a0_0, .int .i64 a0_1, (.slice A0_2 l0_2.length c0_2), (.slice A0_3 l0_3.length c0_3)] 25 (0, 0))) ∧ Aside0 (Below w.heap.size w w'))
  case atStart => exact ⟨(0), (0), (by first | rfl | (simp; done) | (simp [*]; done)), (by first | rfl | (simp; done) | (simp [*]; done)), H', ⟨Nat.le_refl _⟩, ⟨by (with_reducible repeat (first | refine blk_drewN ?_ _ | refine blk_drew ?_ | refine blk_alloc ?_ _)); exact BK254.out⟩, ⟨by repeat (first | (with_reducible first | exact HB.out | apply below_alloc | apply pw_below_drewN | apply below_drew1 | refine below_set ?_ GE254.out) | exact HB.out)⟩⟩
  case round =>
   clear H'; try clear p2; try clear c3; try clear c4; try clear c6; try clear hcz5_0; try clear hcz5_1; try clear hcz5_2; try clear hcz5_3; try clear hfz5_0; try clear hfz5_1; try clear hfz5_2; try clear hfz5_3
   obtain ⟨x3_1, x4_1, rfl, rfl, HA, HK1, BK254, HB⟩ := hrel
   cases gk with
   | zero => exact absurd HA.out (by simp [spec_LoopLength.l0])
   | succ k1 =>
    have H := HA.out
    clear HA
    simp only [spec_LoopLength.l0] at H
    by_cases c7 : x4_1 ≤ a0_0
    ·rw [if_pos c7] at H
     have c7b0 : decide (x4_1 ≤ a0_0) = true := decide_eq_true c7
     clear c7
     have H' := asd H
     clear H
     have hcz8_0 : wr.cell? ⟨gb254, 0, none⟩ = some (.int .i64 a0_0) := (blk_cell BK254.out 0).trans rfl
     have hcz8_1 : wr.cell? ⟨gb254, 1, none⟩ = some (.int .i64 a0_1) := (blk_cell BK254.out 1).trans rfl
     have hcz8_2 : wr.cell? ⟨gb254, 2, none⟩ = some (.slice A0_2 l0_2.length c0_2) := (blk_cell BK254.out 2).trans rfl
     have hcz8_3 : wr.cell? ⟨gb254, 3, none⟩ = some (.slice A0_3 l0_3.length c0_3) := (blk_cell BK254.out 3).trans rfl
     have hfz8_0 := blk_frozen BK254.out 0
     have hfz8_1 := blk_frozen BK254.out 1
     have hfz8_2 := blk_frozen BK254.out 2
     have hfz8_3 := blk_frozen BK254.out 3
     go_wp2
     go_loopg [3, 5] k1 (fun kq v3 v5 w' => ∃ (x3_2 : Int) (x5_2 : Int), v3 = .int .i64 x3_2 ∧ v5 = .int .i64 x5_2 ∧ Aside0 (spec_LoopLength.l1 kq x3_2 x4_1 x5_2 a0_0 a0_1 l0_2 l0_3 = some r) ∧ Aside0 (kq ≤ k1) ∧ Aside0 (w'.heap[gb254]? = some (.cells #[.int .i64 a0_0, .int .i64 a0_1, (.slice A0_2 l0_2.length c0_2), (.slice A0_3 l0_3.length c0_3)] 25 (0, 0))) ∧ Aside0 (Below w.heap.size w w'))
     case atStart => exact ⟨(x3_1), (0), (by first | rfl | (simp; done) | (simp [*]; done)), (by first | rfl | (simp; done) | (simp [*]; done)), H', ⟨Nat.le_refl _⟩, ⟨by (with_reducible repeat (first | refine blk_drewN ?_ _ | refine blk_drew ?_ | refine blk_alloc ?_ _)); exact BK254.out⟩, ⟨by repeat (first | (with_reducible first | exact HB.out | apply below_alloc | apply pw_below_drewN | apply below_drew1 | refine below_set ?_ GE254.out) | exact HB.out)⟩⟩
     case round =>
      clear H'; try clear c7b0; try clear hcz8_0; try clear hcz8_1; try clear hcz8_2; try clear hcz8_3; try clear hfz8_0; try clear hfz8_1; try clear hfz8_2; try clear hfz8_3
      obtain ⟨x3_2, x5_2, rfl, rfl, HA, HK2, BK254, HB⟩ := hrel
      cases gk with
      | zero => exact absurd HA.out (by simp [spec_LoopLength.l1])
      | succ k2 =>
       have H := HA.out
       clear HA
       simp only [spec_LoopLength.l1] at H
       by_cases c9 : x5_2 ≤ a0_1
       ·rw [if_pos c9] at H
        have c9b0 : decide (x5_2 ≤ a0_1) = true := decide_eq_true c9
        clear c9
        replace H := Option.bind_eq_some_iff.mp H
        obtain ⟨t256, A100, H⟩ := H
        replace H : (spec_LoopLength.l1 k2 (wrap64 (x3_2 + t256)) x4_1 (wrap64 (x5_2 + 1)) a0_0 a0_1 l0_2 l0_3) = some r := H
        have A10 := asd A100
        clear A100
        have H' := asd H
        clear H
        have hcz11_0 : wr.cell? ⟨gb254, 0, none⟩ = some (.int .i64 a0_0) := (blk_cell BK254.out 0).trans rfl
        have hcz11_1 : wr.cell? ⟨gb254, 1, none⟩ = some (.int .i64 a0_1) := (blk_cell BK254.out 1).trans rfl
        have hcz11_2 : wr.cell? ⟨gb254, 2, none⟩ = some (.slice A0_2 l0_2.length c0_2) := (blk_cell BK254.out 2).trans rfl
        have hcz11_3 : wr.cell? ⟨gb254, 3, none⟩ = some (.slice A0_3 l0_3.length c0_3) := (blk_cell BK254.out 3).trans rfl
        have hfz11_0 := blk_frozen BK254.out 0
        have hfz11_1 := blk_frozen BK254.out 1
        have hfz11_2 := blk_frozen BK254.out 2
        have hfz11_3 := blk_frozen BK254.out 3
        go_wp2_with (first | ((with_reducible refine gate_callee (f := 63) rfl ?_); refine goesL_ (some 25) rfl rfl Try.func63 (by kernel_rfl) rfl #[.agg #[.int .i64 a0_0, .int .i64 a0_1, .slice A0_2 l0_2.length c0_2, .slice A0_3 l0_3.length c0_3], .int .i64 x4_1, .int .i64 x5_2] rfl (by (try simp only [List.map_toArray, List.map_cons, List.map_nil]); first | done | rfl | (simp only [List.length_drop, List.length_take]; rfl)) ?_; (with_reducible refine (spec_l17Degree.calls k2 a0_0 a0_1 _ _ l0_2 _ _ l0_3 x4_1 x5_2 t256 _ ?side1 ?side2 ?side3 ?side4 A10.out).mono ?_); (case side1 => repeat (first | exact (Kd.C_below HR0_2.out HB.out) | (with_reducible refine Kd.C_alloc ?_ _) | (with_reducible refine Kd.C_drewN ?_ _) | (with_reducible refine Kd.C_drew ?_))); (case side2 => exact HC0_2.out); (case side3 => repeat (first | exact (Kd.C_below HR0_3.out HB.out) | (with_reducible refine Kd.C_alloc ?_ _) | (with_reducible refine Kd.C_drewN ?_ _) | (with_reducible refine Kd.C_drew ?_))); (case side4 => exact HC0_3.out); rintro e w12 ⟨rfl, hb⟩; refine ⟨_, rfl, ?_⟩; have n0_ := asd (blk_below (g := gb254) (o := .cells #[.int .i64 a0_0, .int .i64 a0_1, .slice A0_2 l0_2.length c0_2, .slice A0_3 l0_3.length c0_3] 25 (0, 0)) (by (with_reducible repeat (first | refine blk_drewN ?_ _ | refine blk_drew ?_ | refine blk_alloc ?_ _)); exact BK254.out) hb); have n1_ := asd (below_step (by repeat (first | (with_reducible first | exact HB.out | apply below_alloc | apply pw_below_drewN | apply below_drew1 | refine below_set ?_ GE254.out) | exact HB.out)) hb); clear BK254 HB; have BK254 := n0_; have HB := n1_; clear n0_ n1_))
        go_roundg k2
        case measure => have := HK1.out; have := HK2.out; omega
        case rel => exact ⟨(wrap64 (x3_2 + t256)), (wrap64 (x5_2 + 1)), (by first | rfl | (simp; done) | (simp [*]; done)), (by first | rfl | (simp; done) | (simp [*]; done)), H', ⟨by have := HK1.out; have := HK2.out; omega⟩, ⟨by (with_reducible repeat (first | refine blk_drewN ?_ _ | refine blk_drew ?_ | refine blk_alloc ?_ _)); exact BK254.out⟩, ⟨by repeat (first | (with_reducible first | exact HB.out | apply below_alloc | apply pw_below_drewN | apply below_drew1 | refine below_set ?_ GE254.out) | exact HB.out)⟩⟩
       ·rw [if_neg c9] at H
        have c9b0 : decide (x5_2 ≤ a0_1) = false := decide_eq_false c9
        clear c9
        have H' := asd H
        clear H
        have hcz13_0 : wr.cell? ⟨gb254, 0, none⟩ = some (.int .i64 a0_0) := (blk_cell BK254.out 0).trans rfl
        have hcz13_1 : wr.cell? ⟨gb254, 1, none⟩ = some (.int .i64 a0_1) := (blk_cell BK254.out 1).trans rfl
        have hcz13_2 : wr.cell? ⟨gb254, 2, none⟩ = some (.slice A0_2 l0_2.length c0_2) := (blk_cell BK254.out 2).trans rfl
        have hcz13_3 : wr.cell? ⟨gb254, 3, none⟩ = some (.slice A0_3 l0_3.length c0_3) := (blk_cell BK254.out 3).trans rfl
        have hfz13_0 := blk_frozen BK254.out 0
        have hfz13_1 := blk_frozen BK254.out 1
        have hfz13_2 := blk_frozen BK254.out 2
        have hfz13_3 := blk_frozen BK254.out 3
        go_wp2
        go_roundg k2
        case measure => have := HK1.out; have := HK2.out; omega
        case rel => exact ⟨(x3_2), (wrap64 (x4_1 + 1)), (by first | rfl | (simp; done) | (simp [*]; done)), (by first | rfl | (simp; done) | (simp [*]; done)), H', ⟨by have := HK1.out; have := HK2.out; omega⟩, ⟨by (with_reducible repeat (first | refine blk_drewN ?_ _ | refine blk_drew ?_ | refine blk_alloc ?_ _)); exact BK254.out⟩, ⟨by repeat (first | (with_reducible first | exact HB.out | apply below_alloc | apply pw_below_drewN | apply below_drew1 | refine below_set ?_ GE254.out) | exact HB.out)⟩⟩
    ·rw [if_neg c7] at H
     have c7b0 : decide (x4_1 ≤ a0_0) = false := decide_eq_false c7
     clear c7
     obtain rfl := Option.some.inj H
     have hcz14_0 : wr.cell? ⟨gb254, 0, none⟩ = some (.int .i64 a0_0) := (blk_cell BK254.out 0).trans rfl
     have hcz14_1 : wr.cell? ⟨gb254, 1, none⟩ = some (.int .i64 a0_1) := (blk_cell BK254.out 1).trans rfl
     have hcz14_2 : wr.cell? ⟨gb254, 2, none⟩ = some (.slice A0_2 l0_2.length c0_2) := (blk_cell BK254.out 2).trans rfl
     have hcz14_3 : wr.cell? ⟨gb254, 3, none⟩ = some (.slice A0_3 l0_3.length c0_3) := (blk_cell BK254.out 3).trans rfl
     have hfz14_0 := blk_frozen BK254.out 0
     have hfz14_1 := blk_frozen BK254.out 1
     have hfz14_2 := blk_frozen BK254.out 2
     have hfz14_3 := blk_frozen BK254.out 3
     go_wp2
     go_ret
     exact ⟨by first | rfl | (simp [errW_none, errW_some] <;> rfl) | (simp [*, errW_none, errW_some] <;> rfl), by repeat (first | (with_reducible first | exact HB.out | apply below_alloc | apply pw_below_drewN | apply below_drew1 | refine below_set ?_ GE254.out) | exact HB.out)⟩
 ·replace c3 := Bool.eq_false_iff.mpr c3
  subst c3
  have H1 : (some (-1)) = some r := by rw [if_neg (show ¬ (false = true) by decide)] at H; exact H
  clear H
  have H := H1
  clear H1
  obtain rfl := Option.some.inj H
  go_enter Try.func62, Try.ntmps62
  go_wp2_with (first | ((with_reducible refine gate_dst (N := 1) rfl ?_); refine box_event ?hg (N := 1) ?hd (cs := #[.int .i64 a0_0, .int .i64 a0_1, .slice A0_2 l0_2.length c0_2, .slice A0_3 l0_3.length c0_3]) (t := 25) ?hr ?_; (case hd => rfl); (case hg => rfl); (case hr => first | (go_simp; done) | (go_simp; rfl)); intro gb254 hg w15 hbox hb; have n0_ := asd (below_step (by repeat (first | (with_reducible first | exact HB.out | apply below_alloc | apply pw_below_drewN | apply below_drew1) | exact HB.out)) hb); have n1_ := asd (hbox); have n2_ := asd ((by rw [hg]; exact (below_size (by repeat (first | (with_reducible first | exact HB.out | apply below_alloc | apply pw_below_drewN | apply below_drew1) | exact HB.out))) : w.heap.size ≤ gb254)); have n3_ := asd ((by rw [hg]; exact (below_size (by repeat (first | (with_reducible first | exact HB.out | apply below_alloc | apply pw_below_drewN | apply below_drew1) | exact HB.out))) : w.heap.size ≤ gb254)); clear HB; have HB := n0_; have BK254 := n1_; have GW254 := n2_; have GE254 := n3_; clear n0_ n1_ n2_ n3_ hb hbox hg; have hcz16_0 : w15.cell? ⟨gb254, 0, none⟩ = some (.int .i64 a0_0) := (blk_cell BK254.out 0).trans rfl; have hcz16_1 : w15.cell? ⟨gb254, 1, none⟩ = some (.int .i64 a0_1) := (blk_cell BK254.out 1).trans rfl; have hcz16_2 : w15.cell? ⟨gb254, 2, none⟩ = some (.slice A0_2 l0_2.length c0_2) := (blk_cell BK254.out 2).trans rfl; have hcz16_3 : w15.cell? ⟨gb254, 3, none⟩ = some (.slice A0_3 l0_3.length c0_3) := (blk_cell BK254.out 3).trans rfl; have hfz16_0 := blk_frozen BK254.out 0; have hfz16_1 := blk_frozen BK254.out 1; have hfz16_2 := blk_frozen BK254.out 2; have hfz16_3 := blk_frozen BK254.out 3) | ((with_reducible refine gate_callee (f := 46) rfl ?_); refine goesL_ (some 7) rfl rfl Try.func46 (by kernel_rfl) rfl #[.agg #[.int .i64 a0_0, .int .i64 a0_1, .slice A0_2 l0_2.length c0_2, .slice A0_3 l0_3.length c0_3]] rfl (by (try simp only [List.map_toArray, List.map_cons, List.map_nil]); first | done | rfl | (simp only [List.length_drop, List.length_take]; rfl)) ?_; (with_reducible refine (spec_LoopValid.calls k a0_0 a0_1 _ _ l0_2 _ _ l0_3 false _ ?side1 ?side2 ?side3 ?side4 A2.out).mono ?_); (case side1 => repeat (first | exact (Kd.C_below HR0_2.out HB.out) | (with_reducible refine Kd.C_alloc ?_ _) | (with_reducible refine Kd.C_drewN ?_ _) | (with_reducible refine Kd.C_drew ?_))); (case side2 => exact HC0_2.out); (case side3 => repeat (first | exact (Kd.C_below HR0_3.out HB.out) | (with_reducible refine Kd.C_alloc ?_ _) | (with_reducible refine Kd.C_drewN ?_ _) | (with_reducible refine Kd.C_drew ?_))); (case side4 => exact HC0_3.out); rintro e w17 ⟨rfl, hb⟩; refine ⟨_, rfl, ?_⟩; have n0_ := asd (blk_below (g := gb254) (o := .cells #[.int .i64 a0_0, .int .i64 a0_1, .slice A0_2 l0_2.length c0_2, .slice A0_3 l0_3.length c0_3] 25 (0, 0)) (by (with_reducible repeat (first | refine blk_drewN ?_ _ | refine blk_drew ?_ | refine blk_alloc ?_ _)); exact BK254.out) hb); have n1_ := asd (below_step (by repeat (first | (with_reducible first | exact HB.out | apply below_alloc | apply pw_below_drewN | apply below_drew1 | refine below_set ?_ GE254.out) | exact HB.out)) hb); clear BK254 HB; have BK254 := n0_; have HB := n1_; clear n0_ n1_))
  go_ret
  exact ⟨by first | rfl | (simp [errW_none, errW_some] <;> rfl) | (simp [*, errW_none, errW_some] <;> rfl), by repeat (first | (with_reducible first | exact HB.out | apply below_alloc | apply pw_below_drewN | apply below_drew1 | refine below_set ?_ GE254.out) | exact HB.out)⟩

end Go.Proofs.Ytncmneliinbjdaa.PMk
