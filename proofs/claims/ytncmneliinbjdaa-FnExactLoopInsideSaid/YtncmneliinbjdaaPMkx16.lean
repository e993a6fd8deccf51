/- Functions of the program, and what a call comes to. No conditions. -/
import Derived.Test.YtncmneliinbjdaaPMkx0
namespace Go.Proofs.Ytncmneliinbjdaa.PMk
open Go.RowKit Go.Proofs.YtncmneliinbjdaaW.PrintWords Go.Proofs.YtncmneliinbjdaaW.PrintLast Go.Proofs.YtncmneliinbjdaaW.PrintMore
set_option linter.unusedVariables false
set_option linter.unusedSimpArgs false

/-! ### impl_LoopValid: function 48 -/
mutual
def impl_LoopValid.j0 : Nat → Bool → Int → Int → List (List Bool) → List (List Bool) → Option (Bool)
 | 0, _, _, _, _, _ => none
 | k + 1, x42, x164000, x164001, x164002, x164003 => if x42 = true then (some false) else (impl_LoopValid.l0 k x164002 (x164002.length : Int) 0 x164000 x164001 x164002 x164003)
def impl_LoopValid.l0 : Nat → List (List Bool) → Int → Int → Int → Int → List (List Bool) → List (List Bool) → Option (Bool)
 | 0, _, _, _, _, _, _, _ => none
 | k + 1, x44, x45, x46, x164000, x164001, x164002, x164003 => if x46 < x45 then (if 0 ≤ x46 then (if x46 < (x44.length : Int) then (if ((rd_L1 x44 x46).length : Int) = x164001 then (impl_LoopValid.l0 k x44 x45 (wrap64 (x46 + 1)) x164000 x164001 x164002 x164003) else (some false)) else (none)) else (none)) else (impl_LoopValid.l1 k x164003 (x164003.length : Int) 0 x164000 x164001 x164002 x164003)
def impl_LoopValid.l1 : Nat → List (List Bool) → Int → Int → Int → Int → List (List Bool) → List (List Bool) → Option (Bool)
 | 0, _, _, _, _, _, _, _ => none
 | k + 1, x57, x58, x59, x164000, x164001, x164002, x164003 => if x59 < x58 then (if 0 ≤ x59 then (if x59 < (x57.length : Int) then (if ((rd_L1 x57 x59).length : Int) = x164000 then (impl_LoopValid.l1 k x57 x58 (wrap64 (x59 + 1)) x164000 x164001 x164002 x164003) else (some false)) else (none)) else (none)) else (some true)
end
def impl_LoopValid.f (k : Nat) (a0_0 : Int) (a0_1 : Int) (l0_2 : List (List Bool)) (l0_3 : List (List Bool)) : Option (Bool) := if a0_0 < 1 then (impl_LoopValid.j0 k true a0_0 a0_1 l0_2 l0_3) else (if a0_0 > 4 then (impl_LoopValid.j0 k true a0_0 a0_1 l0_2 l0_3) else (if a0_1 < 1 then (impl_LoopValid.j0 k true a0_0 a0_1 l0_2 l0_3) else (if a0_1 > 4 then (impl_LoopValid.j0 k true a0_0 a0_1 l0_2 l0_3) else (if (l0_2.length : Int) = (wrap64 (a0_0 + 1)) then (impl_LoopValid.j0 k ((l0_3.length : Int) != (wrap64 (a0_1 + 1))) a0_0 a0_1 l0_2 l0_3) else (impl_LoopValid.j0 k true a0_0 a0_1 l0_2 l0_3)))))
theorem impl_LoopValid.mono_l : ∀ k, (∀ y0 y1 y2 y3 y4, LeO (impl_LoopValid.j0 k y0 y1 y2 y3 y4) (impl_LoopValid.j0 (k + 1) y0 y1 y2 y3 y4)) ∧ (∀ y0 y1 y2 y3 y4 y5 y6, LeO (impl_LoopValid.l0 k y0 y1 y2 y3 y4 y5 y6) (impl_LoopValid.l0 (k + 1) y0 y1 y2 y3 y4 y5 y6)) ∧ (∀ y0 y1 y2 y3 y4 y5 y6, LeO (impl_LoopValid.l1 k y0 y1 y2 y3 y4 y5 y6) (impl_LoopValid.l1 (k + 1) y0 y1 y2 y3 y4 y5 y6))
 | 0 => ⟨fun _ _ _ _ _ r h => by simp [impl_LoopValid.j0] at h, fun _ _ _ _ _ _ _ r h => by simp [impl_LoopValid.l0] at h, fun _ _ _ _ _ _ _ r h => by simp [impl_LoopValid.l1] at h⟩
 | k + 1 => by
  obtain ⟨ih0, ih1, ih2⟩ := impl_LoopValid.mono_l k
  refine ⟨?_, ?_, ?_⟩
  ·intro y0 y1 y2 y3 y4
   unfold impl_LoopValid.j0
   repeat' first | (with_reducible first | exact ih0 _ _ _ _ _ | exact ih1 _ _ _ _ _ _ _ | exact ih2 _ _ _ _ _ _ _ | exact LeO.refl _ | exact LeO.none _ | refine LeO.ite ?_ ?_ | refine LeO.bind ?_ (fun _ => ?_)) | exact LeO.none _ | refine LeO.ite ?_ ?_ | refine LeO.bind ?_ (fun _ => ?_)
  ·intro y0 y1 y2 y3 y4 y5 y6
   unfold impl_LoopValid.l0
   repeat' first | (with_reducible first | exact ih0 _ _ _ _ _ | exact ih1 _ _ _ _ _ _ _ | exact ih2 _ _ _ _ _ _ _ | exact LeO.refl _ | exact LeO.none _ | refine LeO.ite ?_ ?_ | refine LeO.bind ?_ (fun _ => ?_)) | exact LeO.none _ | refine LeO.ite ?_ ?_ | refine LeO.bind ?_ (fun _ => ?_)
  ·intro y0 y1 y2 y3 y4 y5 y6
   unfold impl_LoopValid.l1
   repeat' first | (with_reducible first | exact ih0 _ _ _ _ _ | exact ih1 _ _ _ _ _ _ _ | exact ih2 _ _ _ _ _ _ _ | exact LeO.refl _ | exact LeO.none _ | refine LeO.ite ?_ ?_ | refine LeO.bind ?_ (fun _ => ?_)) | exact LeO.none _ | refine LeO.ite ?_ ?_ | refine LeO.bind ?_ (fun _ => ?_)
theorem impl_LoopValid.mono : ∀ a0 a1 a2 a3 k, LeO (impl_LoopValid.f k a0 a1 a2 a3) (impl_LoopValid.f (k + 1) a0 a1 a2 a3) := by
 intro a0 a1 a2 a3 k
 obtain ⟨ih0, ih1, ih2⟩ := impl_LoopValid.mono_l k
 unfold impl_LoopValid.f
 repeat' first | (with_reducible first | exact ih0 _ _ _ _ _ | exact ih1 _ _ _ _ _ _ _ | exact ih2 _ _ _ _ _ _ _ | exact LeO.refl _ | exact LeO.none _ | refine LeO.ite ?_ ?_ | refine LeO.bind ?_ (fun _ => ?_)) | exact LeO.none _ | refine LeO.ite ?_ ?_ | refine LeO.bind ?_ (fun _ => ?_)
set_option maxHeartbeats 8000000 in
set_option maxRecDepth 100000 in
theorem impl_LoopValid.calls (k : Nat) (a0_0 : Int) (a0_1 : Int) (A0_2 : Option Addr) (c0_2 : Nat) (l0_2 : List (List Bool)) (A0_3 : Option Addr) (c0_3 : Nat) (l0_3 : List (List Bool)) (r : Bool) (w : World) (hr0_2 : Kd.C (Kd.slice 4 Kd.bool) w A0_2 l0_2.length l0_2) (hc0_2 : l0_2.length ≤ c0_2) (hr0_3 : Kd.C (Kd.slice 4 Kd.bool) w A0_3 l0_3.length l0_3) (hc0_3 : l0_3.length ≤ c0_3) (h : impl_LoopValid.f k a0_0 a0_1 l0_2 l0_3 = some r) :
  Calls Try.prog 48 #[.agg #[.int .i64 a0_0, .int .i64 a0_1, .slice A0_2 l0_2.length c0_2, .slice A0_3 l0_3.length c0_3]] w fun e w' => e = .returned (.bool r) ∧ Below w.heap.size w w' := by
 have hu25 := Try.underlying25
 have HR0_2 := asd hr0_2
 have HC0_2 := asd hc0_2
 clear hr0_2 hc0_2
 have HR0_3 := asd hr0_3
 have HC0_3 := asd hc0_3
 clear hr0_3 hc0_3
 have HB := asd (Below.refl w.heap.size w)
 have H : (if a0_0 < 1 then (impl_LoopValid.j0 k true a0_0 a0_1 l0_2 l0_3) else (if a0_0 > 4 then (impl_LoopValid.j0 k true a0_0 a0_1 l0_2 l0_3) else (if a0_1 < 1 then (impl_LoopValid.j0 k true a0_0 a0_1 l0_2 l0_3) else (if a0_1 > 4 then (impl_LoopValid.j0 k true a0_0 a0_1 l0_2 l0_3) else (if (l0_2.length : Int) = (wrap64 (a0_0 + 1)) then (impl_LoopValid.j0 k ((l0_3.length : Int) != (wrap64 (a0_1 + 1))) a0_0 a0_1 l0_2 l0_3) else (impl_LoopValid.j0 k true a0_0 a0_1 l0_2 l0_3)))))) = some r := h
 clear h
 have HC2 := asd H
 clear H
 go_enter Try.func48, Try.ntmps48
 go_upto_region 1 with (first | ((with_reducible refine gate_dst (N := 1) rfl ?_); (try (refine gate_guard (by rfl) ?_; dsimp only)); refine box_event ?hg (N := 1) ?hd (cs := #[.int .i64 a0_0, .int .i64 a0_1, .slice A0_2 l0_2.length c0_2, .slice A0_3 l0_3.length c0_3]) (t := 25) ?hr ?_; (case hd => rfl); (case hg => rfl); (case hr => first | (go_simp; done) | (go_simp; rfl)); intro gb163 hg w3 hbox hb; have n0_ := asd (below_step (by repeat (first | (with_reducible first | exact HB.out | apply below_alloc | apply pw_below_drewN | apply below_drew1) | exact HB.out)) hb); have n1_ := asd (hbox); have n2_ := asd ((by rw [hg]; exact (below_size (by repeat (first | (with_reducible first | exact HB.out | apply below_alloc | apply pw_below_drewN | apply below_drew1) | exact HB.out))) : w.heap.size ≤ gb163)); have n3_ := asd ((by rw [hg]; exact (below_size (by repeat (first | (with_reducible first | exact HB.out | apply below_alloc | apply pw_below_drewN | apply below_drew1) | exact HB.out))) : w.heap.size ≤ gb163)); clear HB; have HB := n0_; have BK163 := n1_; have GW163 := n2_; have GE163 := n3_; clear n0_ n1_ n2_ n3_; clear hb hbox hg))
 (try simp only [Act.put, List.setIfInBounds_toArray, List.set_cons_zero, List.set_cons_succ])
 go_cut [42] (fun v42 wc => ∃ (kq : Nat) (x42_1 : Bool), v42 = .bool x42_1 ∧ Aside0 (impl_LoopValid.j0 kq x42_1 a0_0 a0_1 l0_2 l0_3 = some r) ∧ Aside0 (kq ≤ k) ∧ Aside0 (wc.heap[gb163]? = some (.cells #[.int .i64 a0_0, .int .i64 a0_1, (.slice A0_2 l0_2.length c0_2), (.slice A0_3 l0_3.length c0_3)] 25 (0, 0))) ∧ Aside0 (Below w.heap.size w wc))
 case first =>
  have H := HC2.out
  clear HC2
  by_cases c4 : a0_0 < 1
  ·rw [if_pos c4] at H
   have c4b0 : decide (a0_0 < 1) = true := decide_eq_true c4
   clear c4
   (first | rw [c4b0] | (simp only [i64_w, i32_w]; rw [c4b0]) | skip)
   have H' := asd H
   clear H
   have hcz5_0 : w3.cell? ⟨gb163, 0, none⟩ = some (.int .i64 a0_0) := (blk_cell BK163.out 0).trans rfl
   have hcz5_1 : w3.cell? ⟨gb163, 1, none⟩ = some (.int .i64 a0_1) := (blk_cell BK163.out 1).trans rfl
   have hcz5_2 : w3.cell? ⟨gb163, 2, none⟩ = some (.slice A0_2 l0_2.length c0_2) := (blk_cell BK163.out 2).trans rfl
   have hcz5_3 : w3.cell? ⟨gb163, 3, none⟩ = some (.slice A0_3 l0_3.length c0_3) := (blk_cell BK163.out 3).trans rfl
   have hfz5_0 := blk_frozen BK163.out 0
   have hfz5_1 := blk_frozen BK163.out 1
   have hfz5_2 := blk_frozen BK163.out 2
   have hfz5_3 := blk_frozen BK163.out 3
   go_wp2
   go_meet
   case rel => exact ⟨_, (true), (by first | rfl | (simp; done) | (simp [*]; done)), H', ⟨by first | omega | exact Nat.le_refl _⟩, ⟨by (with_reducible repeat (first | refine blk_drewN ?_ _ | refine blk_drew ?_ | refine blk_alloc ?_ _)); exact BK163.out⟩, ⟨by repeat (first | (with_reducible first | exact HB.out | apply below_alloc | apply pw_below_drewN | apply below_drew1 | refine below_set ?_ GE163.out) | exact HB.out)⟩⟩
  ·rw [if_neg c4] at H
   have c4b0 : decide (a0_0 < 1) = false := decide_eq_false c4
   clear c4
   (first | rw [c4b0] | (simp only [i64_w, i32_w]; rw [c4b0]) | skip)
   by_cases c6 : a0_0 > 4
   ·rw [if_pos c6] at H
    have c6b0 : decide (4 < a0_0) = true := decide_eq_true c6
    clear c6
    have H' := asd H
    clear H
    have hcz7_0 : w3.cell? ⟨gb163, 0, none⟩ = some (.int .i64 a0_0) := (blk_cell BK163.out 0).trans rfl
    have hcz7_1 : w3.cell? ⟨gb163, 1, none⟩ = some (.int .i64 a0_1) := (blk_cell BK163.out 1).trans rfl
    have hcz7_2 : w3.cell? ⟨gb163, 2, none⟩ = some (.slice A0_2 l0_2.length c0_2) := (blk_cell BK163.out 2).trans rfl
    have hcz7_3 : w3.cell? ⟨gb163, 3, none⟩ = some (.slice A0_3 l0_3.length c0_3) := (blk_cell BK163.out 3).trans rfl
    have hfz7_0 := blk_frozen BK163.out 0
    have hfz7_1 := blk_frozen BK163.out 1
    have hfz7_2 := blk_frozen BK163.out 2
    have hfz7_3 := blk_frozen BK163.out 3
    go_wp2
    go_meet
    case rel => exact ⟨_, (true), (by first | rfl | (simp; done) | (simp [*]; done)), H', ⟨by first | omega | exact Nat.le_refl _⟩, ⟨by (with_reducible repeat (first | refine blk_drewN ?_ _ | refine blk_drew ?_ | refine blk_alloc ?_ _)); exact BK163.out⟩, ⟨by repeat (first | (with_reducible first | exact HB.out | apply below_alloc | apply pw_below_drewN | apply below_drew1 | refine below_set ?_ GE163.out) | exact HB.out)⟩⟩
   ·rw [if_neg c6] at H
    have c6b0 : decide (4 < a0_0) = false := decide_eq_false c6
    clear c6
    by_cases c8 : a0_1 < 1
    ·rw [if_pos c8] at H
     have c8b0 : decide (a0_1 < 1) = true := decide_eq_true c8
     clear c8
     have H' := asd H
     clear H
     have hcz9_0 : w3.cell? ⟨gb163, 0, none⟩ = some (.int .i64 a0_0) := (blk_cell BK163.out 0).trans rfl
     have hcz9_1 : w3.cell? ⟨gb163, 1, none⟩ = some (.int .i64 a0_1) := (blk_cell BK163.out 1).trans rfl
     have hcz9_2 : w3.cell? ⟨gb163, 2, none⟩ = some (.slice A0_2 l0_2.length c0_2) := (blk_cell BK163.out 2).trans rfl
     have hcz9_3 : w3.cell? ⟨gb163, 3, none⟩ = some (.slice A0_3 l0_3.length c0_3) := (blk_cell BK163.out 3).trans rfl
     have hfz9_0 := blk_frozen BK163.out 0
     have hfz9_1 := blk_frozen BK163.out 1
     have hfz9_2 := blk_frozen BK163.out 2
     have hfz9_3 := blk_frozen BK163.out 3
     go_wp2
     go_meet
     case rel => exact ⟨_, (true), (by first | rfl | (simp; done) | (simp [*]; done)), H', ⟨by first | omega | exact Nat.le_refl _⟩, ⟨by (with_reducible repeat (first | refine blk_drewN ?_ _ | refine blk_drew ?_ | refine blk_alloc ?_ _)); exact BK163.out⟩, ⟨by repeat (first | (with_reducible first | exact HB.out | apply below_alloc | apply pw_below_drewN | apply below_drew1 | refine below_set ?_ GE163.out) | exact HB.out)⟩⟩
    ·rw [if_neg c8] at H
     have c8b0 : decide (a0_1 < 1) = false := decide_eq_false c8
     clear c8
     by_cases c10 : a0_1 > 4
     ·rw [if_pos c10] at H
      have c10b0 : decide (4 < a0_1) = true := decide_eq_true c10
      clear c10
      have H' := asd H
      clear H
      have hcz11_0 : w3.cell? ⟨gb163, 0, none⟩ = some (.int .i64 a0_0) := (blk_cell BK163.out 0).trans rfl
      have hcz11_1 : w3.cell? ⟨gb163, 1, none⟩ = some (.int .i64 a0_1) := (blk_cell BK163.out 1).trans rfl
      have hcz11_2 : w3.cell? ⟨gb163, 2, none⟩ = some (.slice A0_2 l0_2.length c0_2) := (blk_cell BK163.out 2).trans rfl
      have hcz11_3 : w3.cell? ⟨gb163, 3, none⟩ = some (.slice A0_3 l0_3.length c0_3) := (blk_cell BK163.out 3).trans rfl
      have hfz11_0 := blk_frozen BK163.out 0
      have hfz11_1 := blk_frozen BK163.out 1
      have hfz11_2 := blk_frozen BK163.out 2
      have hfz11_3 := blk_frozen BK163.out 3
      go_wp2
      go_meet
      case rel => exact ⟨_, (true), (by first | rfl | (simp; done) | (simp [*]; done)), H', ⟨by first | omega | exact Nat.le_refl _⟩, ⟨by (with_reducible repeat (first | refine blk_drewN ?_ _ | refine blk_drew ?_ | refine blk_alloc ?_ _)); exact BK163.out⟩, ⟨by repeat (first | (with_reducible first | exact HB.out | apply below_alloc | apply pw_below_drewN | apply below_drew1 | refine below_set ?_ GE163.out) | exact HB.out)⟩⟩
     ·rw [if_neg c10] at H
      have c10b0 : decide (4 < a0_1) = false := decide_eq_false c10
      clear c10
      by_cases c12 : (l0_2.length : Int) = (wrap64 (a0_0 + 1))
      ·rw [if_pos c12] at H
       have c12b0 : ((l0_2.length : Int) == (wrap64 (a0_0 + 1))) = true := beq_iff_eq.mpr c12
       have c12b1 : ((l0_2.length : Int) != (wrap64 (a0_0 + 1))) = false := bne_eq_false_iff_eq.mpr c12
       clear c12
       have H' := asd H
       clear H
       have hcz13_0 : w3.cell? ⟨gb163, 0, none⟩ = some (.int .i64 a0_0) := (blk_cell BK163.out 0).trans rfl
       have hcz13_1 : w3.cell? ⟨gb163, 1, none⟩ = some (.int .i64 a0_1) := (blk_cell BK163.out 1).trans rfl
       have hcz13_2 : w3.cell? ⟨gb163, 2, none⟩ = some (.slice A0_2 l0_2.length c0_2) := (blk_cell BK163.out 2).trans rfl
       have hcz13_3 : w3.cell? ⟨gb163, 3, none⟩ = some (.slice A0_3 l0_3.length c0_3) := (blk_cell BK163.out 3).trans rfl
       have hfz13_0 := blk_frozen BK163.out 0
       have hfz13_1 := blk_frozen BK163.out 1
       have hfz13_2 := blk_frozen BK163.out 2
       have hfz13_3 := blk_frozen BK163.out 3
       go_wp2
       go_meet
       case rel => exact ⟨_, (((l0_3.length : Int) != (wrap64 (a0_1 + 1)))), (by first | rfl | (simp; done) | (simp [*]; done)), H', ⟨by first | omega | exact Nat.le_refl _⟩, ⟨by (with_reducible repeat (first | refine blk_drewN ?_ _ | refine blk_drew ?_ | refine blk_alloc ?_ _)); exact BK163.out⟩, ⟨by repeat (first | (with_reducible first | exact HB.out | apply below_alloc | apply pw_below_drewN | apply below_drew1 | refine below_set ?_ GE163.out) | exact HB.out)⟩⟩
      ·rw [if_neg c12] at H
       have c12b0 : ((l0_2.length : Int) == (wrap64 (a0_0 + 1))) = false := beq_eq_false_iff_ne.mpr c12
       have c12b1 : ((l0_2.length : Int) != (wrap64 (a0_0 + 1))) = true := bne_iff_ne.mpr c12
       have H' := asd H
       clear H
       have hcz14_0 : w3.cell? ⟨gb163, 0, none⟩ = some (.int .i64 a0_0) := (blk_cell BK163.out 0).trans rfl
       have hcz14_1 : w3.cell? ⟨gb163, 1, none⟩ = some (.int .i64 a0_1) := (blk_cell BK163.out 1).trans rfl
       have hcz14_2 : w3.cell? ⟨gb163, 2, none⟩ = some (.slice A0_2 l0_2.length c0_2) := (blk_cell BK163.out 2).trans rfl
       have hcz14_3 : w3.cell? ⟨gb163, 3, none⟩ = some (.slice A0_3 l0_3.length c0_3) := (blk_cell BK163.out 3).trans rfl
       have hfz14_0 := blk_frozen BK163.out 0
       have hfz14_1 := blk_frozen BK163.out 1
       have hfz14_2 := blk_frozen BK163.out 2
       have hfz14_3 := blk_frozen BK163.out 3
       go_wp2
       go_meet
       case rel => exact ⟨_, (true), (by first | rfl | (simp; done) | (simp [*]; done)), H', ⟨by first | omega | exact Nat.le_refl _⟩, ⟨by (with_reducible repeat (first | refine blk_drewN ?_ _ | refine blk_drew ?_ | refine blk_alloc ?_ _)); exact BK163.out⟩, ⟨by repeat (first | (with_reducible first | exact HB.out | apply below_alloc | apply pw_below_drewN | apply below_drew1 | refine below_set ?_ GE163.out) | exact HB.out)⟩⟩
 case rest =>
  clear HC2; try clear c1; try clear p2; try clear c4; try clear c4b0; try clear c6; try clear c6b0; try clear p6; try clear c8; try clear c8b0; try clear c10; try clear c10b0; try clear c12; try clear c12b0; try clear c12b1; try clear hcz11_0; try clear hcz11_1; try clear hcz11_2; try clear hcz11_3; try clear hcz13_0; try clear hcz13_1; try clear hcz13_2; try clear hcz13_3; try clear hcz14_0; try clear hcz14_1; try clear hcz14_2; try clear hcz14_3; try clear hcz5_0; try clear hcz5_1; try clear hcz5_2; try clear hcz5_3; try clear hcz7_0; try clear hcz7_1; try clear hcz7_2; try clear hcz7_3; try clear hcz9_0; try clear hcz9_1; try clear hcz9_2; try clear hcz9_3; try clear hfz11_0; try clear hfz11_1; try clear hfz11_2; try clear hfz11_3; try clear hfz13_0; try clear hfz13_1; try clear hfz13_2; try clear hfz13_3; try clear hfz14_0; try clear hfz14_1; try clear hfz14_2; try clear hfz14_3; try clear hfz5_0; try clear hfz5_1; try clear hfz5_2; try clear hfz5_3; try clear hfz7_0; try clear hfz7_1; try clear hfz7_2; try clear hfz7_3; try clear hfz9_0; try clear hfz9_1; try clear hfz9_2; try clear hfz9_3
  obtain ⟨kq, x42_1, rfl, HA, HJ1, BK163, HB⟩ := hcut
  cases kq with
  | zero => exact absurd HA.out (by simp [impl_LoopValid.j0])
  | succ kj1 =>
   have H := HA.out
   clear HA
   simp only [impl_LoopValid.j0] at H
   by_cases c15 : x42_1 = true
   ·subst c15
    have H1 : (some false) = some r := by rw [if_pos rfl] at H; exact H
    clear H
    have H := H1
    clear H1
    obtain rfl := Option.some.inj H
    go_wp2
    go_ret
    exact ⟨by first | rfl | (simp [errW_none, errW_some] <;> rfl) | (simp [*, errW_none, errW_some] <;> rfl), by repeat (first | (with_reducible first | exact HB.out | apply below_alloc | apply pw_below_drewN | apply below_drew1 | refine below_set ?_ GE163.out) | exact HB.out)⟩
   ·replace c15 := Bool.eq_false_iff.mpr c15
    subst c15
    have H1 : (impl_LoopValid.l0 kj1 l0_2 (l0_2.length : Int) 0 a0_0 a0_1 l0_2 l0_3) = some r := by rw [if_neg (show ¬ (false = true) by decide)] at H; exact H
    clear H
    have H := H1
    clear H1
    have H' := asd H
    clear H
    have hcz16_0 : wc.cell? ⟨gb163, 0, none⟩ = some (.int .i64 a0_0) := (blk_cell BK163.out 0).trans rfl
    have hcz16_1 : wc.cell? ⟨gb163, 1, none⟩ = some (.int .i64 a0_1) := (blk_cell BK163.out 1).trans rfl
    have hcz16_2 : wc.cell? ⟨gb163, 2, none⟩ = some (.slice A0_2 l0_2.length c0_2) := (blk_cell BK163.out 2).trans rfl
    have hcz16_3 : wc.cell? ⟨gb163, 3, none⟩ = some (.slice A0_3 l0_3.length c0_3) := (blk_cell BK163.out 3).trans rfl
    have hfz16_0 := blk_frozen BK163.out 0
    have hfz16_1 := blk_frozen BK163.out 1
    have hfz16_2 := blk_frozen BK163.out 2
    have hfz16_3 := blk_frozen BK163.out 3
    go_wp2
    go_loopg [46] kj1 (fun kq v46 w' => ∃ (x46_2 : Int), v46 = .int .i64 x46_2 ∧ Aside0 (impl_LoopValid.l0 kq l0_2 (l0_2.length : Int) x46_2 a0_0 a0_1 l0_2 l0_3 = some r) ∧ Aside0 (kq ≤ kj1) ∧ Aside0 (w'.heap[gb163]? = some (.cells #[.int .i64 a0_0, .int .i64 a0_1, (.slice A0_2 l0_2.length c0_2), (.slice A0_3 l0_3.length c0_3)] 25 (0, 0))) ∧ Aside0 (Below w.heap.size w w'))
    case atStart => exact ⟨(0), (by first | rfl | (simp; done) | (simp [*]; done)), H', ⟨Nat.le_refl _⟩, ⟨by (with_reducible repeat (first | refine blk_drewN ?_ _ | refine blk_drew ?_ | refine blk_alloc ?_ _)); exact BK163.out⟩, ⟨by repeat (first | (with_reducible first | exact HB.out | apply below_alloc | apply pw_below_drewN | apply below_drew1 | refine below_set ?_ GE163.out) | exact HB.out)⟩⟩
    case round =>
     clear H'; try clear c15; try clear hcz16_0; try clear hcz16_1; try clear hcz16_2; try clear hcz16_3; try clear hfz16_0; try clear hfz16_1; try clear hfz16_2; try clear hfz16_3
     obtain ⟨x46_2, rfl, HA, HK2, BK163, HB⟩ := hrel
     cases gk with
     | zero => exact absurd HA.out (by simp [impl_LoopValid.l0])
     | succ k2 =>
      have H := HA.out
      clear HA
      simp only [impl_LoopValid.l0] at H
      by_cases c17 : x46_2 < (l0_2.length : Int)
      ·rw [if_pos c17] at H
       have c17b0 : decide (x46_2 < (l0_2.length : Int)) = true := decide_eq_true c17
       clear c17
       by_cases c18 : 0 ≤ x46_2
       ·rw [if_pos c18] at H
        have c18b0 : decide (0 ≤ x46_2) = true := decide_eq_true c18
        clear c18
        by_cases c19 : x46_2 < (l0_2.length : Int)
        ·rw [if_pos c19] at H
         have c19b0 : decide (x46_2 < (l0_2.length : Int)) = true := decide_eq_true c19
         clear c19
         by_cases c20 : ((rd_L1 l0_2 x46_2).length : Int) = a0_1
         ·rw [if_pos c20] at H
          have c20b0 : (((rd_L1 l0_2 x46_2).length : Int) == a0_1) = true := beq_iff_eq.mpr c20
          have c20b1 : (((rd_L1 l0_2 x46_2).length : Int) != a0_1) = false := bne_eq_false_iff_eq.mpr c20
          clear c20
          have H' := asd H
          clear H
          have p164 : 0 ≤ (x46_2 : Int) := of_decide_eq_true (by first | (with_reducible assumption) | assumption)
          have q164 : x46_2 < (l0_2.length : Int) := of_decide_eq_true (by first | (with_reducible assumption) | assumption)
          obtain ⟨ad164, A164_0, c164_0, e164, hx164_0, hl164_0, hi164_0⟩ := at_L1 HR0_2.out x46_2 p164 q164
          cases e164
          replace hx164_0 := (HB.out.cell (World.block_lt_of_cell? w _ hx164_0)).trans hx164_0
          have HR164_0 := asd hi164_0
          have HC164_0 := asd hl164_0
          clear hi164_0 hl164_0
          replace p164 := eq_true p164
          replace q164 := eq_true q164
          have hcz21_0 : wr.cell? ⟨gb163, 0, none⟩ = some (.int .i64 a0_0) := (blk_cell BK163.out 0).trans rfl
          have hcz21_1 : wr.cell? ⟨gb163, 1, none⟩ = some (.int .i64 a0_1) := (blk_cell BK163.out 1).trans rfl
          have hcz21_2 : wr.cell? ⟨gb163, 2, none⟩ = some (.slice (some ad164) l0_2.length c0_2) := (blk_cell BK163.out 2).trans rfl
          have hcz21_3 : wr.cell? ⟨gb163, 3, none⟩ = some (.slice A0_3 l0_3.length c0_3) := (blk_cell BK163.out 3).trans rfl
          have hfz21_0 := blk_frozen BK163.out 0
          have hfz21_1 := blk_frozen BK163.out 1
          have hfz21_2 := blk_frozen BK163.out 2
          have hfz21_3 := blk_frozen BK163.out 3
          go_wp2
          go_roundg k2
          case measure => have := HJ1.out; have := HK2.out; omega
          case rel => exact ⟨(wrap64 (x46_2 + 1)), (by first | rfl | (simp; done) | (simp [*]; done)), H', ⟨by have := HJ1.out; have := HK2.out; omega⟩, ⟨by (with_reducible repeat (first | refine blk_drewN ?_ _ | refine blk_drew ?_ | refine blk_alloc ?_ _)); exact BK163.out⟩, ⟨by repeat (first | (with_reducible first | exact HB.out | apply below_alloc | apply pw_below_drewN | apply below_drew1 | refine below_set ?_ GE163.out) | exact HB.out)⟩⟩
         ·rw [if_neg c20] at H
          have c20b0 : (((rd_L1 l0_2 x46_2).length : Int) == a0_1) = false := beq_eq_false_iff_ne.mpr c20
          have c20b1 : (((rd_L1 l0_2 x46_2).length : Int) != a0_1) = true := bne_iff_ne.mpr c20
          obtain rfl := Option.some.inj H
          have p164 : 0 ≤ (x46_2 : Int) := of_decide_eq_true (by first | (with_reducible assumption) | assumption)
          have q164 : x46_2 < (l0_2.length : Int) := of_decide_eq_true (by first | (with_reducible assumption) | assumption)
          obtain ⟨ad164, A164_0, c164_0, e164, hx164_0, hl164_0, hi164_0⟩ := at_L1 HR0_2.out x46_2 p164 q164
          cases e164
          replace hx164_0 := (HB.out.cell (World.block_lt_of_cell? w _ hx164_0)).trans hx164_0
          have HR164_0 := asd hi164_0
          have HC164_0 := asd hl164_0
          clear hi164_0 hl164_0
          replace p164 := eq_true p164
          replace q164 := eq_true q164
          have hcz22_0 : wr.cell? ⟨gb163, 0, none⟩ = some (.int .i64 a0_0) := (blk_cell BK163.out 0).trans rfl
          have hcz22_1 : wr.cell? ⟨gb163, 1, none⟩ = some (.int .i64 a0_1) := (blk_cell BK163.out 1).trans rfl
          have hcz22_2 : wr.cell? ⟨gb163, 2, none⟩ = some (.slice (some ad164) l0_2.length c0_2) := (blk_cell BK163.out 2).trans rfl
          have hcz22_3 : wr.cell? ⟨gb163, 3, none⟩ = some (.slice A0_3 l0_3.length c0_3) := (blk_cell BK163.out 3).trans rfl
          have hfz22_0 := blk_frozen BK163.out 0
          have hfz22_1 := blk_frozen BK163.out 1
          have hfz22_2 := blk_frozen BK163.out 2
          have hfz22_3 := blk_frozen BK163.out 3
          go_wp2
          go_ret
          exact ⟨by first | rfl | (simp [errW_none, errW_some] <;> rfl) | (simp [*, errW_none, errW_some] <;> rfl), by repeat (first | (with_reducible first | exact HB.out | apply below_alloc | apply pw_below_drewN | apply below_drew1 | refine below_set ?_ GE163.out) | exact HB.out)⟩
        ·rw [if_neg c19] at H
         exact absurd H (by simp)
       ·rw [if_neg c18] at H
        exact absurd H (by simp)
      ·rw [if_neg c17] at H
       have c17b0 : decide (x46_2 < (l0_2.length : Int)) = false := decide_eq_false c17
       clear c17
       have H' := asd H
       clear H
       have hcz23_0 : wr.cell? ⟨gb163, 0, none⟩ = some (.int .i64 a0_0) := (blk_cell BK163.out 0).trans rfl
       have hcz23_1 : wr.cell? ⟨gb163, 1, none⟩ = some (.int .i64 a0_1) := (blk_cell BK163.out 1).trans rfl
       have hcz23_2 : wr.cell? ⟨gb163, 2, none⟩ = some (.slice A0_2 l0_2.length c0_2) := (blk_cell BK163.out 2).trans rfl
       have hcz23_3 : wr.cell? ⟨gb163, 3, none⟩ = some (.slice A0_3 l0_3.length c0_3) := (blk_cell BK163.out 3).trans rfl
       have hfz23_0 := blk_frozen BK163.out 0
       have hfz23_1 := blk_frozen BK163.out 1
       have hfz23_2 := blk_frozen BK163.out 2
       have hfz23_3 := blk_frozen BK163.out 3
       go_wp2
       go_loopg [59] k2 (fun kq v59 w' => ∃ (x59_3 : Int), v59 = .int .i64 x59_3 ∧ Aside0 (impl_LoopValid.l1 kq l0_3 (l0_3.length : Int) x59_3 a0_0 a0_1 l0_2 l0_3 = some r) ∧ Aside0 (kq ≤ k2) ∧ Aside0 (w'.heap[gb163]? = some (.cells #[.int .i64 a0_0, .int .i64 a0_1, (.slice A0_2 l0_2.length c0_2), (.slice A0_3 l0_3.length c0_3)] 25 (0, 0))) ∧ Aside0 (Below w.heap.size w w'))
       case atStart => exact ⟨(0), (by first | rfl | (simp; done) | (simp [*]; done)), H', ⟨Nat.le_refl _⟩, ⟨by (with_reducible repeat (first | refine blk_drewN ?_ _ | refine blk_drew ?_ | refine blk_alloc ?_ _)); exact BK163.out⟩, ⟨by repeat (first | (with_reducible first | exact HB.out | apply below_alloc | apply pw_below_drewN | apply below_drew1 | refine below_set ?_ GE163.out) | exact HB.out)⟩⟩
       case round =>
        clear H'; try clear p1; try clear q1; try clear hx1; try clear c2; try clear c16; try clear p16; try clear q16; try clear hx16; try clear c17b0; try clear c18; try clear c18b0; try clear c19; try clear c19b0; try clear c20; try clear c20b0; try clear c20b1; try clear hcz21_0; try clear hcz21_1; try clear hcz21_2; try clear hcz21_3; try clear hcz22_0; try clear hcz22_1; try clear hcz22_2; try clear hcz22_3; try clear hcz23_0; try clear hcz23_1; try clear hcz23_2; try clear hcz23_3; try clear hfz21_0; try clear hfz21_1; try clear hfz21_2; try clear hfz21_3; try clear hfz22_0; try clear hfz22_1; try clear hfz22_2; try clear hfz22_3; try clear hfz23_0; try clear hfz23_1; try clear hfz23_2; try clear hfz23_3; try clear hx164_0; try clear p164; try clear q164
        obtain ⟨x59_3, rfl, HA, HK3, BK163, HB⟩ := hrel
        cases gk with
        | zero => exact absurd HA.out (by simp [impl_LoopValid.l1])
        | succ k3 =>
         have H := HA.out
         clear HA
         simp only [impl_LoopValid.l1] at H
         by_cases c24 : x59_3 < (l0_3.length : Int)
         ·rw [if_pos c24] at H
          have c24b0 : decide (x59_3 < (l0_3.length : Int)) = true := decide_eq_true c24
          clear c24
          by_cases c25 : 0 ≤ x59_3
          ·rw [if_pos c25] at H
           have c25b0 : decide (0 ≤ x59_3) = true := decide_eq_true c25
           clear c25
           by_cases c26 : x59_3 < (l0_3.length : Int)
           ·rw [if_pos c26] at H
            have c26b0 : decide (x59_3 < (l0_3.length : Int)) = true := decide_eq_true c26
            clear c26
            by_cases c27 : ((rd_L1 l0_3 x59_3).length : Int) = a0_0
            ·rw [if_pos c27] at H
             have c27b0 : (((rd_L1 l0_3 x59_3).length : Int) == a0_0) = true := beq_iff_eq.mpr c27
             have c27b1 : (((rd_L1 l0_3 x59_3).length : Int) != a0_0) = false := bne_eq_false_iff_eq.mpr c27
             clear c27
             have H' := asd H
             clear H
             have p165 : 0 ≤ (x59_3 : Int) := of_decide_eq_true (by first | (with_reducible assumption) | assumption)
             have q165 : x59_3 < (l0_3.length : Int) := of_decide_eq_true (by first | (with_reducible assumption) | assumption)
             obtain ⟨ad165, A165_0, c165_0, e165, hx165_0, hl165_0, hi165_0⟩ := at_L1 HR0_3.out x59_3 p165 q165
             cases e165
             replace hx165_0 := (HB.out.cell (World.block_lt_of_cell? w _ hx165_0)).trans hx165_0
             have HR165_0 := asd hi165_0
             have HC165_0 := asd hl165_0
             clear hi165_0 hl165_0
             replace p165 := eq_true p165
             replace q165 := eq_true q165
             have hcz28_0 : wr.cell? ⟨gb163, 0, none⟩ = some (.int .i64 a0_0) := (blk_cell BK163.out 0).trans rfl
             have hcz28_1 : wr.cell? ⟨gb163, 1, none⟩ = some (.int .i64 a0_1) := (blk_cell BK163.out 1).trans rfl
             have hcz28_2 : wr.cell? ⟨gb163, 2, none⟩ = some (.slice A0_2 l0_2.length c0_2) := (blk_cell BK163.out 2).trans rfl
             have hcz28_3 : wr.cell? ⟨gb163, 3, none⟩ = some (.slice (some ad165) l0_3.length c0_3) := (blk_cell BK163.out 3).trans rfl
             have hfz28_0 := blk_frozen BK163.out 0
             have hfz28_1 := blk_frozen BK163.out 1
             have hfz28_2 := blk_frozen BK163.out 2
             have hfz28_3 := blk_frozen BK163.out 3
             go_wp2
             go_roundg k3
             case measure => have := HJ1.out; have := HK2.out; have := HK3.out; omega
             case rel => exact ⟨(wrap64 (x59_3 + 1)), (by first | rfl | (simp; done) | (simp [*]; done)), H', ⟨by have := HJ1.out; have := HK2.out; have := HK3.out; omega⟩, ⟨by (with_reducible repeat (first | refine blk_drewN ?_ _ | refine blk_drew ?_ | refine blk_alloc ?_ _)); exact BK163.out⟩, ⟨by repeat (first | (with_reducible first | exact HB.out | apply below_alloc | apply pw_below_drewN | apply below_drew1 | refine below_set ?_ GE163.out) | exact HB.out)⟩⟩
            ·rw [if_neg c27] at H
             have c27b0 : (((rd_L1 l0_3 x59_3).length : Int) == a0_0) = false := beq_eq_false_iff_ne.mpr c27
             have c27b1 : (((rd_L1 l0_3 x59_3).length : Int) != a0_0) = true := bne_iff_ne.mpr c27
             obtain rfl := Option.some.inj H
             have p165 : 0 ≤ (x59_3 : Int) := of_decide_eq_true (by first | (with_reducible assumption) | assumption)
             have q165 : x59_3 < (l0_3.length : Int) := of_decide_eq_true (by first | (with_reducible assumption) | assumption)
             obtain ⟨ad165, A165_0, c165_0, e165, hx165_0, hl165_0, hi165_0⟩ := at_L1 HR0_3.out x59_3 p165 q165
             cases e165
             replace hx165_0 := (HB.out.cell (World.block_lt_of_cell? w _ hx165_0)).trans hx165_0
             have HR165_0 := asd hi165_0
             have HC165_0 := asd hl165_0
             clear hi165_0 hl165_0
             replace p165 := eq_true p165
             replace q165 := eq_true q165
             have hcz29_0 : wr.cell? ⟨gb163, 0, none⟩ = some (.int .i64 a0_0) := (blk_cell BK163.out 0).trans rfl
             have hcz29_1 : wr.cell? ⟨gb163, 1, none⟩ = some (.int .i64 a0_1) := (blk_cell BK163.out 1).trans rfl
             have hcz29_2 : wr.cell? ⟨gb163, 2, none⟩ = some (.slice A0_2 l0_2.length c0_2) := (blk_cell BK163.out 2).trans rfl
             have hcz29_3 : wr.cell? ⟨gb163, 3, none⟩ = some (.slice (some ad165) l0_3.length c0_3) := (blk_cell BK163.out 3).trans rfl
             have hfz29_0 := blk_frozen BK163.out 0
             have hfz29_1 := blk_frozen BK163.out 1
             have hfz29_2 := blk_frozen BK163.out 2
             have hfz29_3 := blk_frozen BK163.out 3
             go_wp2
             go_ret
             exact ⟨by first | rfl | (simp [errW_none, errW_some] <;> rfl) | (simp [*, errW_none, errW_some] <;> rfl), by repeat (first | (with_reducible first | exact HB.out | apply below_alloc | apply pw_below_drewN | apply below_drew1 | refine below_set ?_ GE163.out) | exact HB.out)⟩
           ·rw [if_neg c26] at H
            exact absurd H (by simp)
          ·rw [if_neg c25] at H
           exact absurd H (by simp)
         ·rw [if_neg c24] at H
          have c24b0 : decide (x59_3 < (l0_3.length : Int)) = false := decide_eq_false c24
          clear c24
          obtain rfl := Option.some.inj H
          go_wp2
          go_ret
          exact ⟨by first | rfl | (simp [errW_none, errW_some] <;> rfl) | (simp [*, errW_none, errW_some] <;> rfl), by repeat (first | (with_reducible first | exact HB.out | apply below_alloc | apply pw_below_drewN | apply below_drew1 | refine below_set ?_ GE163.out) | exact HB.out)⟩

end Go.Proofs.Ytncmneliinbjdaa.PMk
