/- Functions of the program, and what a call comes to. No conditions. -/
import Derived.Test.YtdinbpfklikghaaPLoopsx0
import Derived.Test.YtdinbpfklikghaaPLoopsx38
namespace Go.Proofs.Ytdinbpfklikghaa.PLoops
open Go.RowKit Go.Proofs.YtdinbpfklikghaaW.PrintWords Go.Proofs.YtdinbpfklikghaaW.PrintLast Go.Proofs.YtdinbpfklikghaaW.PrintMore
set_option linter.unusedVariables false
set_option linter.unusedSimpArgs false

/-! ### laws_sameLoop: function 41 -/
mutual
def laws_sameLoop.j0 : Nat → Bool → Int → Int → List (List Bool) → List (List Bool) → Int → Int → List (List Bool) → List (List Bool) → Option (Bool)
 | 0, _, _, _, _, _, _, _, _, _ => none
 | k + 1, x36, x467000, x467001, x467002, x467003, x468000, x468001, x468002, x468003 => if x36 = true then (some false) else (laws_sameLoop.l0 k 0 x467000 x467001 x467002 x467003 x468000 x468001 x468002 x468003)
def laws_sameLoop.l0 : Nat → Int → Int → Int → List (List Bool) → List (List Bool) → Int → Int → List (List Bool) → List (List Bool) → Option (Bool)
 | 0, _, _, _, _, _, _, _, _, _ => none
 | k + 1, x5, x467000, x467001, x467002, x467003, x468000, x468001, x468002, x468003 => if x5 < (x467002.length : Int) then (if 0 ≤ x5 then (if x5 < (x468002.length : Int) then ((laws_sameFlags.f k (rd_L1 x467002 x5) (rd_L1 x468002 x5)).bind fun t470 => (if t470 = true then (laws_sameLoop.l0 k (wrap64 (x5 + 1)) x467000 x467001 x467002 x467003 x468000 x468001 x468002 x468003) else (some false))) else (none)) else (none)) else (laws_sameLoop.l1 k 0 x467000 x467001 x467002 x467003 x468000 x468001 x468002 x468003)
def laws_sameLoop.l1 : Nat → Int → Int → Int → List (List Bool) → List (List Bool) → Int → Int → List (List Bool) → List (List Bool) → Option (Bool)
 | 0, _, _, _, _, _, _, _, _, _ => none
 | k + 1, x6, x467000, x467001, x467002, x467003, x468000, x468001, x468002, x468003 => if x6 < (x467003.length : Int) then (if 0 ≤ x6 then (if x6 < (x468003.length : Int) then ((laws_sameFlags.f k (rd_L1 x467003 x6) (rd_L1 x468003 x6)).bind fun t473 => (if t473 = true then (laws_sameLoop.l1 k (wrap64 (x6 + 1)) x467000 x467001 x467002 x467003 x468000 x468001 x468002 x468003) else (some false))) else (none)) else (none)) else (some true)
end
def laws_sameLoop.f (k : Nat) (a0_0 : Int) (a0_1 : Int) (l0_2 : List (List Bool)) (l0_3 : List (List Bool)) (a1_0 : Int) (a1_1 : Int) (l1_2 : List (List Bool)) (l1_3 : List (List Bool)) : Option (Bool) := if a0_0 = a1_0 then (if a0_1 = a1_1 then (if (l0_2.length : Int) = (l1_2.length : Int) then (laws_sameLoop.j0 k ((l0_3.length : Int) != (l1_3.length : Int)) a0_0 a0_1 l0_2 l0_3 a1_0 a1_1 l1_2 l1_3) else (laws_sameLoop.j0 k true a0_0 a0_1 l0_2 l0_3 a1_0 a1_1 l1_2 l1_3)) else (laws_sameLoop.j0 k true a0_0 a0_1 l0_2 l0_3 a1_0 a1_1 l1_2 l1_3)) else (laws_sameLoop.j0 k true a0_0 a0_1 l0_2 l0_3 a1_0 a1_1 l1_2 l1_3)
theorem laws_sameLoop.mono_l : ∀ k, (∀ y0 y1 y2 y3 y4 y5 y6 y7 y8, LeO (laws_sameLoop.j0 k y0 y1 y2 y3 y4 y5 y6 y7 y8) (laws_sameLoop.j0 (k + 1) y0 y1 y2 y3 y4 y5 y6 y7 y8)) ∧ (∀ y0 y1 y2 y3 y4 y5 y6 y7 y8, LeO (laws_sameLoop.l0 k y0 y1 y2 y3 y4 y5 y6 y7 y8) (laws_sameLoop.l0 (k + 1) y0 y1 y2 y3 y4 y5 y6 y7 y8)) ∧ (∀ y0 y1 y2 y3 y4 y5 y6 y7 y8, LeO (laws_sameLoop.l1 k y0 y1 y2 y3 y4 y5 y6 y7 y8) (laws_sameLoop.l1 (k + 1) y0 y1 y2 y3 y4 y5 y6 y7 y8))
 | 0 => ⟨fun _ _ _ _ _ _ _ _ _ r h => by simp [laws_sameLoop.j0] at h, fun _ _ _ _ _ _ _ _ _ r h => by simp [laws_sameLoop.l0] at h, fun _ _ _ _ _ _ _ _ _ r h => by simp [laws_sameLoop.l1] at h⟩
 | k + 1 => by
  obtain ⟨ih0, ih1, ih2⟩ := laws_sameLoop.mono_l k
  refine ⟨?_, ?_, ?_⟩
  ·intro y0 y1 y2 y3 y4 y5 y6 y7 y8
   unfold laws_sameLoop.j0
   repeat' first | (with_reducible first | exact ih0 _ _ _ _ _ _ _ _ _ | exact ih1 _ _ _ _ _ _ _ _ _ | exact ih2 _ _ _ _ _ _ _ _ _ | exact laws_sameFlags.mono _ _ _ | exact LeO.refl _ | exact LeO.none _ | refine LeO.ite ?_ ?_ | refine LeO.bind ?_ (fun _ => ?_)) | exact LeO.none _ | refine LeO.ite ?_ ?_ | refine LeO.bind ?_ (fun _ => ?_)
  ·intro y0 y1 y2 y3 y4 y5 y6 y7 y8
   unfold laws_sameLoop.l0
   repeat' first | (with_reducible first | exact ih0 _ _ _ _ _ _ _ _ _ | exact ih1 _ _ _ _ _ _ _ _ _ | exact ih2 _ _ _ _ _ _ _ _ _ | exact laws_sameFlags.mono _ _ _ | exact LeO.refl _ | exact LeO.none _ | refine LeO.ite ?_ ?_ | refine LeO.bind ?_ (fun _ => ?_)) | exact LeO.none _ | refine LeO.ite ?_ ?_ | refine LeO.bind ?_ (fun _ => ?_)
  ·intro y0 y1 y2 y3 y4 y5 y6 y7 y8
   unfold laws_sameLoop.l1
   repeat' first | (with_reducible first | exact ih0 _ _ _ _ _ _ _ _ _ | exact ih1 _ _ _ _ _ _ _ _ _ | exact ih2 _ _ _ _ _ _ _ _ _ | exact laws_sameFlags.mono _ _ _ | exact LeO.refl _ | exact LeO.none _ | refine LeO.ite ?_ ?_ | refine LeO.bind ?_ (fun _ => ?_)) | exact LeO.none _ | refine LeO.ite ?_ ?_ | refine LeO.bind ?_ (fun _ => ?_)
theorem laws_sameLoop.mono : ∀ a0 a1 a2 a3 a4 a5 a6 a7 k, LeO (laws_sameLoop.f k a0 a1 a2 a3 a4 a5 a6 a7) (laws_sameLoop.f (k + 1) a0 a1 a2 a3 a4 a5 a6 a7) := by
 intro a0 a1 a2 a3 a4 a5 a6 a7 k
 obtain ⟨ih0, ih1, ih2⟩ := laws_sameLoop.mono_l k
 unfold laws_sameLoop.f
 repeat' first | (with_reducible first | exact ih0 _ _ _ _ _ _ _ _ _ | exact ih1 _ _ _ _ _ _ _ _ _ | exact ih2 _ _ _ _ _ _ _ _ _ | exact laws_sameFlags.mono _ _ _ | exact LeO.refl _ | exact LeO.none _ | refine LeO.ite ?_ ?_ | refine LeO.bind ?_ (fun _ => ?_)) | exact LeO.none _ | refine LeO.ite ?_ ?_ | refine LeO.bind ?_ (fun _ => ?_)
set_option maxHeartbeats 8000000 in
set_option maxRecDepth 100000 in
theorem laws_sameLoop.calls (k : Nat) (a0_0 : Int) (a0_1 : Int) (A0_2 : Option Addr) (c0_2 : Nat) (l0_2 : List (List Bool)) (A0_3 : Option Addr) (c0_3 : Nat) (l0_3 : List (List Bool)) (a1_0 : Int) (a1_1 : Int) (A1_2 : Option Addr) (c1_2 : Nat) (l1_2 : List (List Bool)) (A1_3 : Option Addr) (c1_3 : Nat) (l1_3 : List (List Bool)) (r : Bool) (w : World) (hr0_2 : Kd.C (Kd.slice 4 Kd.bool) w A0_2 l0_2.length l0_2) (hc0_2 : l0_2.length ≤ c0_2) (hr0_3 : Kd.C (Kd.slice 4 Kd.bool) w A0_3 l0_3.length l0_3) (hc0_3 : l0_3.length ≤ c0_3) (hr1_2 : Kd.C (Kd.slice 4 Kd.bool) w A1_2 l1_2.length l1_2) (hc1_2 : l1_2.length ≤ c1_2) (hr1_3 : Kd.C (Kd.slice 4 Kd.bool) w A1_3 l1_3.length l1_3) (hc1_3 : l1_3.length ≤ c1_3) (h : laws_sameLoop.f k a0_0 a0_1 l0_2 l0_3 a1_0 a1_1 l1_2 l1_3 = some r) :
  Calls Try.prog 41 #[.agg #[.int .i64 a0_0, .int .i64 a0_1, .slice A0_2 l0_2.length c0_2, .slice A0_3 l0_3.length c0_3], .agg #[.int .i64 a1_0, .int .i64 a1_1, .slice A1_2 l1_2.length c1_2, .slice A1_3 l1_3.length c1_3]] w fun e w' => e = .returned (.bool r) ∧ Below w.heap.size w w' := by
 have hu27 := Try.underlying27
 have HR0_2 := asd hr0_2
 have HC0_2 := asd hc0_2
 clear hr0_2 hc0_2
 have HR0_3 := asd hr0_3
 have HC0_3 := asd hc0_3
 clear hr0_3 hc0_3
 have HR1_2 := asd hr1_2
 have HC1_2 := asd hc1_2
 clear hr1_2 hc1_2
 have HR1_3 := asd hr1_3
 have HC1_3 := asd hc1_3
 clear hr1_3 hc1_3
 have HB := asd (Below.refl w.heap.size w)
 have H : (if a0_0 = a1_0 then (if a0_1 = a1_1 then (if (l0_2.length : Int) = (l1_2.length : Int) then (laws_sameLoop.j0 k ((l0_3.length : Int) != (l1_3.length : Int)) a0_0 a0_1 l0_2 l0_3 a1_0 a1_1 l1_2 l1_3) else (laws_sameLoop.j0 k true a0_0 a0_1 l0_2 l0_3 a1_0 a1_1 l1_2 l1_3)) else (laws_sameLoop.j0 k true a0_0 a0_1 l0_2 l0_3 a1_0 a1_1 l1_2 l1_3)) else (laws_sameLoop.j0 k true a0_0 a0_1 l0_2 l0_3 a1_0 a1_1 l1_2 l1_3)) = some r := h
 clear h
 have HC3 := asd H
 clear H
 go_enter Try.func41, Try.ntmps41
 go_upto_region 1 with (first | ((with_reducible refine gate_dst (N := 2) rfl ?_); (try (refine gate_guard (by rfl) ?_; dsimp only)); refine box_event ?hg (N := 2) ?hd (cs := #[.int .i64 a0_0, .int .i64 a0_1, .slice A0_2 l0_2.length c0_2, .slice A0_3 l0_3.length c0_3]) (t := 27) ?hr ?_; (case hd => rfl); (case hg => rfl); (case hr => first | (go_simp; done) | (go_simp; rfl)); intro gb466 hg w4 hbox hb; have n0_ := asd (below_step (by repeat (first | (with_reducible first | exact HB.out | apply below_alloc | apply pw_below_drewN | apply below_drew1) | exact HB.out)) hb); have n1_ := asd (hbox); have n2_ := asd ((by rw [hg]; exact (below_size (by repeat (first | (with_reducible first | exact HB.out | apply below_alloc | apply pw_below_drewN | apply below_drew1) | exact HB.out))) : w.heap.size ≤ gb466)); have n3_ := asd ((by rw [hg]; exact (below_size (by repeat (first | (with_reducible first | exact HB.out | apply below_alloc | apply pw_below_drewN | apply below_drew1) | exact HB.out))) : w.heap.size ≤ gb466)); clear HB; have HB := n0_; have BK466 := n1_; have GW466 := n2_; have GE466 := n3_; clear n0_ n1_ n2_ n3_; clear hb hbox hg) | ((with_reducible refine gate_dst (N := 3) rfl ?_); (try (refine gate_guard (by rfl) ?_; dsimp only)); refine box_event ?hg (N := 3) ?hd (cs := #[.int .i64 a1_0, .int .i64 a1_1, .slice A1_2 l1_2.length c1_2, .slice A1_3 l1_3.length c1_3]) (t := 27) ?hr ?_; (case hd => rfl); (case hg => rfl); (case hr => first | (go_simp; done) | (go_simp; rfl)); intro gb467 hg w5 hbox hb; have n0_ := asd (blk_below (g := gb466) (o := .cells #[.int .i64 a0_0, .int .i64 a0_1, .slice A0_2 l0_2.length c0_2, .slice A0_3 l0_3.length c0_3] 27 (0, 0)) (by (with_reducible repeat (first | refine blk_drewN ?_ _ | refine blk_drew ?_ | refine blk_alloc ?_ _)); exact BK466.out) hb); have n1_ := asd (below_step (by repeat (first | (with_reducible first | exact HB.out | apply below_alloc | apply pw_below_drewN | apply below_drew1 | refine below_set ?_ GE466.out) | exact HB.out)) hb); have n2_ := asd (hbox); have n3_ := asd ((by rw [hg]; exact (below_size (by repeat (first | (with_reducible first | exact HB.out | apply below_alloc | apply pw_below_drewN | apply below_drew1 | refine below_set ?_ GE466.out) | exact HB.out))) : w.heap.size ≤ gb467)); have n4_ := asd ((by rw [hg]; exact (below_size (by repeat (first | (with_reducible first | exact HB.out | apply below_alloc | apply pw_below_drewN | apply below_drew1 | refine below_set ?_ GE466.out) | exact HB.out))) : w.heap.size ≤ gb467)); have n5_ := asd ((by rw [hg]; exact Nat.ne_of_lt (blk_lt (g := gb466) (o := .cells #[.int .i64 a0_0, .int .i64 a0_1, .slice A0_2 l0_2.length c0_2, .slice A0_3 l0_3.length c0_3] 27 (0, 0)) (by (with_reducible repeat (first | refine blk_drewN ?_ _ | refine blk_drew ?_ | refine blk_alloc ?_ _)); exact BK466.out)) : gb466 ≠ gb467)); have n6_ := asd ((by rw [hg]; exact Nat.ne_of_gt (blk_lt (g := gb466) (o := .cells #[.int .i64 a0_0, .int .i64 a0_1, .slice A0_2 l0_2.length c0_2, .slice A0_3 l0_3.length c0_3] 27 (0, 0)) (by (with_reducible repeat (first | refine blk_drewN ?_ _ | refine blk_drew ?_ | refine blk_alloc ?_ _)); exact BK466.out)) : gb467 ≠ gb466)); clear BK466 HB; have BK466 := n0_; have HB := n1_; have BK467 := n2_; have GW467 := n3_; have GE467 := n4_; have NB466_467 := n5_; have NB467_466 := n6_; clear n0_ n1_ n2_ n3_ n4_ n5_ n6_; clear hb hbox hg))
 repeat (go_quiet (first | ((with_reducible refine gate_dst (N := 2) rfl ?_); (try (refine gate_guard (by rfl) ?_; dsimp only)); refine box_event ?hg (N := 2) ?hd (cs := #[.int .i64 a0_0, .int .i64 a0_1, .slice A0_2 l0_2.length c0_2, .slice A0_3 l0_3.length c0_3]) (t := 27) ?hr ?_; (case hd => rfl); (case hg => rfl); (case hr => first | (go_simp; done) | (go_simp; rfl)); intro gb466 hg w4 hbox hb; have n0_ := asd (below_step (by repeat (first | (with_reducible first | exact HB.out | apply below_alloc | apply pw_below_drewN | apply below_drew1) | exact HB.out)) hb); have n1_ := asd (hbox); have n2_ := asd ((by rw [hg]; exact (below_size (by repeat (first | (with_reducible first | exact HB.out | apply below_alloc | apply pw_below_drewN | apply below_drew1) | exact HB.out))) : w.heap.size ≤ gb466)); have n3_ := asd ((by rw [hg]; exact (below_size (by repeat (first | (with_reducible first | exact HB.out | apply below_alloc | apply pw_below_drewN | apply below_drew1) | exact HB.out))) : w.heap.size ≤ gb466)); clear HB; have HB := n0_; have BK466 := n1_; have GW466 := n2_; have GE466 := n3_; clear n0_ n1_ n2_ n3_; clear hb hbox hg) | ((with_reducible refine gate_dst (N := 3) rfl ?_); (try (refine gate_guard (by rfl) ?_; dsimp only)); refine box_event ?hg (N := 3) ?hd (cs := #[.int .i64 a1_0, .int .i64 a1_1, .slice A1_2 l1_2.length c1_2, .slice A1_3 l1_3.length c1_3]) (t := 27) ?hr ?_; (case hd => rfl); (case hg => rfl); (case hr => first | (go_simp; done) | (go_simp; rfl)); intro gb467 hg w5 hbox hb; have n0_ := asd (blk_below (g := gb466) (o := .cells #[.int .i64 a0_0, .int .i64 a0_1, .slice A0_2 l0_2.length c0_2, .slice A0_3 l0_3.length c0_3] 27 (0, 0)) (by (with_reducible repeat (first | refine blk_drewN ?_ _ | refine blk_drew ?_ | refine blk_alloc ?_ _)); exact BK466.out) hb); have n1_ := asd (below_step (by repeat (first | (with_reducible first | exact HB.out | apply below_alloc | apply pw_below_drewN | apply below_drew1 | refine below_set ?_ GE466.out) | exact HB.out)) hb); have n2_ := asd (hbox); have n3_ := asd ((by rw [hg]; exact (below_size (by repeat (first | (with_reducible first | exact HB.out | apply below_alloc | apply pw_below_drewN | apply below_drew1 | refine below_set ?_ GE466.out) | exact HB.out))) : w.heap.size ≤ gb467)); have n4_ := asd ((by rw [hg]; exact (below_size (by repeat (first | (with_reducible first | exact HB.out | apply below_alloc | apply pw_below_drewN | apply below_drew1 | refine below_set ?_ GE466.out) | exact HB.out))) : w.heap.size ≤ gb467)); have n5_ := asd ((by rw [hg]; exact Nat.ne_of_lt (blk_lt (g := gb466) (o := .cells #[.int .i64 a0_0, .int .i64 a0_1, .slice A0_2 l0_2.length c0_2, .slice A0_3 l0_3.length c0_3] 27 (0, 0)) (by (with_reducible repeat (first | refine blk_drewN ?_ _ | refine blk_drew ?_ | refine blk_alloc ?_ _)); exact BK466.out)) : gb466 ≠ gb467)); have n6_ := asd ((by rw [hg]; exact Nat.ne_of_gt (blk_lt (g := gb466) (o := .cells #[.int .i64 a0_0, .int .i64 a0_1, .slice A0_2 l0_2.length c0_2, .slice A0_3 l0_3.length c0_3] 27 (0, 0)) (by (with_reducible repeat (first | refine blk_drewN ?_ _ | refine blk_drew ?_ | refine blk_alloc ?_ _)); exact BK466.out)) : gb467 ≠ gb466)); clear BK466 HB; have BK466 := n0_; have HB := n1_; have BK467 := n2_; have GW467 := n3_; have GE467 := n4_; have NB466_467 := n5_; have NB467_466 := n6_; clear n0_ n1_ n2_ n3_ n4_ n5_ n6_; clear hb hbox hg)); go_upto_region 1 with (first | ((with_reducible refine gate_dst (N := 2) rfl ?_); (try (refine gate_guard (by rfl) ?_; dsimp only)); refine box_event ?hg (N := 2) ?hd (cs := #[.int .i64 a0_0, .int .i64 a0_1, .slice A0_2 l0_2.length c0_2, .slice A0_3 l0_3.length c0_3]) (t := 27) ?hr ?_; (case hd => rfl); (case hg => rfl); (case hr => first | (go_simp; done) | (go_simp; rfl)); intro gb466 hg w4 hbox hb; have n0_ := asd (below_step (by repeat (first | (with_reducible first | exact HB.out | apply below_alloc | apply pw_below_drewN | apply below_drew1) | exact HB.out)) hb); have n1_ := asd (hbox); have n2_ := asd ((by rw [hg]; exact (below_size (by repeat (first | (with_reducible first | exact HB.out | apply below_alloc | apply pw_below_drewN | apply below_drew1) | exact HB.out))) : w.heap.size ≤ gb466)); have n3_ := asd ((by rw [hg]; exact (below_size (by repeat (first | (with_reducible first | exact HB.out | apply below_alloc | apply pw_below_drewN | apply below_drew1) | exact HB.out))) : w.heap.size ≤ gb466)); clear HB; have HB := n0_; have BK466 := n1_; have GW466 := n2_; have GE466 := n3_; clear n0_ n1_ n2_ n3_; clear hb hbox hg) | ((with_reducible refine gate_dst (N := 3) rfl ?_); (try (refine gate_guard (by rfl) ?_; dsimp only)); refine box_event ?hg (N := 3) ?hd (cs := #[.int .i64 a1_0, .int .i64 a1_1, .slice A1_2 l1_2.length c1_2, .slice A1_3 l1_3.length c1_3]) (t := 27) ?hr ?_; (case hd => rfl); (case hg => rfl); (case hr => first | (go_simp; done) | (go_simp; rfl)); intro gb467 hg w5 hbox hb; have n0_ := asd (blk_below (g := gb466) (o := .cells #[.int .i64 a0_0, .int .i64 a0_1, .slice A0_2 l0_2.length c0_2, .slice A0_3 l0_3.length c0_3] 27 (0, 0)) (by (with_reducible repeat (first | refine blk_drewN ?_ _ | refine blk_drew ?_ | refine blk_alloc ?_ _)); exact BK466.out) hb); have n1_ := asd (below_step (by repeat (first | (with_reducible first | exact HB.out | apply below_alloc | apply pw_below_drewN | apply below_drew1 | refine below_set ?_ GE466.out) | exact HB.out)) hb); have n2_ := asd (hbox); have n3_ := asd ((by rw [hg]; exact (below_size (by repeat (first | (with_reducible first | exact HB.out | apply below_alloc | apply pw_below_drewN | apply below_drew1 | refine below_set ?_ GE466.out) | exact HB.out))) : w.heap.size ≤ gb467)); have n4_ := asd ((by rw [hg]; exact (below_size (by repeat (first | (with_reducible first | exact HB.out | apply below_alloc | apply pw_below_drewN | apply below_drew1 | refine below_set ?_ GE466.out) | exact HB.out))) : w.heap.size ≤ gb467)); have n5_ := asd ((by rw [hg]; exact Nat.ne_of_lt (blk_lt (g := gb466) (o := .cells #[.int .i64 a0_0, .int .i64 a0_1, .slice A0_2 l0_2.length c0_2, .slice A0_3 l0_3.length c0_3] 27 (0, 0)) (by (with_reducible repeat (first | refine blk_drewN ?_ _ | refine blk_drew ?_ | refine blk_alloc ?_ _)); exact BK466.out)) : gb466 ≠ gb467)); have n6_ := asd ((by rw [hg]; exact Nat.ne_of_gt (blk_lt (g := gb466) (o := .cells #[.int .i64 a0_0, .int .i64 a0_1, .slice A0_2 l0_2.length c0_2, .slice A0_3 l0_3.length c0_3] 27 (0, 0)) (by (with_reducible repeat (first | refine blk_drewN ?_ _ | refine blk_drew ?_ | refine blk_alloc ?_ _)); exact BK466.out)) : gb467 ≠ gb466)); clear BK466 HB; have BK466 := n0_; have HB := n1_; have BK467 := n2_; have GW467 := n3_; have GE467 := n4_; have NB466_467 := n5_; have NB467_466 := n6_; clear n0_ n1_ n2_ n3_ n4_ n5_ n6_; clear hb hbox hg)))
 (try simp only [Act.put, List.setIfInBounds_toArray, List.set_cons_zero, List.set_cons_succ])
 go_cut [36] (fun v36 wc => ∃ (kq : Nat) (x36_2 : Bool), v36 = .bool x36_2 ∧ Aside0 (laws_sameLoop.j0 kq x36_2 a0_0 a0_1 l0_2 l0_3 a1_0 a1_1 l1_2 l1_3 = some r) ∧ Aside0 (kq ≤ k) ∧ Aside0 (wc.heap[gb466]? = some (.cells #[.int .i64 a0_0, .int .i64 a0_1, (.slice A0_2 l0_2.length c0_2), (.slice A0_3 l0_3.length c0_3)] 27 (0, 0))) ∧ Aside0 (wc.heap[gb467]? = some (.cells #[.int .i64 a1_0, .int .i64 a1_1, (.slice A1_2 l1_2.length c1_2), (.slice A1_3 l1_3.length c1_3)] 27 (0, 0))) ∧ Aside0 (Below w.heap.size w wc))
 case first =>
  have H := HC3.out
  clear HC3
  by_cases c6 : a0_0 = a1_0
  ·rw [if_pos c6] at H
   have c6b0 : (a0_0 == a1_0) = true := beq_iff_eq.mpr c6
   have c6b1 : (a0_0 != a1_0) = false := bne_eq_false_iff_eq.mpr c6
   clear c6
   (first | rw [c6b0] | (simp only [i64_w, i32_w]; rw [c6b0]) | skip)
   by_cases c7 : a0_1 = a1_1
   ·rw [if_pos c7] at H
    have c7b0 : (a0_1 == a1_1) = true := beq_iff_eq.mpr c7
    have c7b1 : (a0_1 != a1_1) = false := bne_eq_false_iff_eq.mpr c7
    clear c7
    by_cases c8 : (l0_2.length : Int) = (l1_2.length : Int)
    ·rw [if_pos c8] at H
     have c8b0 : ((l0_2.length : Int) == (l1_2.length : Int)) = true := beq_iff_eq.mpr c8
     have c8b1 : ((l0_2.length : Int) != (l1_2.length : Int)) = false := bne_eq_false_iff_eq.mpr c8
     have c8b2 : (l0_2.length == l1_2.length) = true := by first | simpa using c8 | (simp at c8 ⊢; omega)
     clear c8
     have H' := asd H
     clear H
     have hnb9 := NB466_467.out
     have hnc9 := NB467_466.out
     have hcz10_0 : w5.cell? ⟨gb466, 0, none⟩ = some (.int .i64 a0_0) := (blk_cell BK466.out 0).trans rfl
     have hcz10_1 : w5.cell? ⟨gb466, 1, none⟩ = some (.int .i64 a0_1) := (blk_cell BK466.out 1).trans rfl
     have hcz10_2 : w5.cell? ⟨gb466, 2, none⟩ = some (.slice A0_2 l0_2.length c0_2) := (blk_cell BK466.out 2).trans rfl
     have hcz10_3 : w5.cell? ⟨gb466, 3, none⟩ = some (.slice A0_3 l0_3.length c0_3) := (blk_cell BK466.out 3).trans rfl
     have hfz10_0 := blk_frozen BK466.out 0
     have hfz10_1 := blk_frozen BK466.out 1
     have hfz10_2 := blk_frozen BK466.out 2
     have hfz10_3 := blk_frozen BK466.out 3
     have hcz11_0 : w5.cell? ⟨gb467, 0, none⟩ = some (.int .i64 a1_0) := (blk_cell BK467.out 0).trans rfl
     have hcz11_1 : w5.cell? ⟨gb467, 1, none⟩ = some (.int .i64 a1_1) := (blk_cell BK467.out 1).trans rfl
     have hcz11_2 : w5.cell? ⟨gb467, 2, none⟩ = some (.slice A1_2 l1_2.length c1_2) := (blk_cell BK467.out 2).trans rfl
     have hcz11_3 : w5.cell? ⟨gb467, 3, none⟩ = some (.slice A1_3 l1_3.length c1_3) := (blk_cell BK467.out 3).trans rfl
     have hfz11_0 := blk_frozen BK467.out 0
     have hfz11_1 := blk_frozen BK467.out 1
     have hfz11_2 := blk_frozen BK467.out 2
     have hfz11_3 := blk_frozen BK467.out 3
     go_wp2
     repeat (go_quiet (fail); try go_wp2)
     go_meet
     case rel => exact ⟨_, (((l0_3.length : Int) != (l1_3.length : Int))), (by first | rfl | (simp; done) | (simp [*]; done)), H', ⟨by first | omega | exact Nat.le_refl _⟩, ⟨by (with_reducible repeat (first | refine blk_drewN ?_ _ | refine blk_drew ?_ | refine blk_alloc ?_ _)); exact BK466.out⟩, ⟨by (with_reducible repeat (first | refine blk_drewN ?_ _ | refine blk_drew ?_ | refine blk_alloc ?_ _)); exact BK467.out⟩, ⟨by repeat (first | (with_reducible first | exact HB.out | apply below_alloc | apply pw_below_drewN | apply below_drew1 | refine below_set ?_ GE466.out | refine below_set ?_ GE467.out) | exact HB.out)⟩⟩
    ·rw [if_neg c8] at H
     have c8b0 : ((l0_2.length : Int) == (l1_2.length : Int)) = false := beq_eq_false_iff_ne.mpr c8
     have c8b1 : ((l0_2.length : Int) != (l1_2.length : Int)) = true := bne_iff_ne.mpr c8
     have c8b2 : (l0_2.length == l1_2.length) = false := by first | simpa using c8 | (simp at c8 ⊢; omega)
     have H' := asd H
     clear H
     have hnb12 := NB466_467.out
     have hnc12 := NB467_466.out
     have hcz13_0 : w5.cell? ⟨gb466, 0, none⟩ = some (.int .i64 a0_0) := (blk_cell BK466.out 0).trans rfl
     have hcz13_1 : w5.cell? ⟨gb466, 1, none⟩ = some (.int .i64 a0_1) := (blk_cell BK466.out 1).trans rfl
     have hcz13_2 : w5.cell? ⟨gb466, 2, none⟩ = some (.slice A0_2 l0_2.length c0_2) := (blk_cell BK466.out 2).trans rfl
     have hcz13_3 : w5.cell? ⟨gb466, 3, none⟩ = some (.slice A0_3 l0_3.length c0_3) := (blk_cell BK466.out 3).trans rfl
     have hfz13_0 := blk_frozen BK466.out 0
     have hfz13_1 := blk_frozen BK466.out 1
     have hfz13_2 := blk_frozen BK466.out 2
     have hfz13_3 := blk_frozen BK466.out 3
     have hcz14_0 : w5.cell? ⟨gb467, 0, none⟩ = some (.int .i64 a1_0) := (blk_cell BK467.out 0).trans rfl
     have hcz14_1 : w5.cell? ⟨gb467, 1, none⟩ = some (.int .i64 a1_1) := (blk_cell BK467.out 1).trans rfl
     have hcz14_2 : w5.cell? ⟨gb467, 2, none⟩ = some (.slice A1_2 l1_2.length c1_2) := (blk_cell BK467.out 2).trans rfl
     have hcz14_3 : w5.cell? ⟨gb467, 3, none⟩ = some (.slice A1_3 l1_3.length c1_3) := (blk_cell BK467.out 3).trans rfl
     have hfz14_0 := blk_frozen BK467.out 0
     have hfz14_1 := blk_frozen BK467.out 1
     have hfz14_2 := blk_frozen BK467.out 2
     have hfz14_3 := blk_frozen BK467.out 3
     go_wp2
     repeat (go_quiet (fail); try go_wp2)
     go_meet
     case rel => exact ⟨_, (true), (by first | rfl | (simp; done) | (simp [*]; done)), H', ⟨by first | omega | exact Nat.le_refl _⟩, ⟨by (with_reducible repeat (first | refine blk_drewN ?_ _ | refine blk_drew ?_ | refine blk_alloc ?_ _)); exact BK466.out⟩, ⟨by (with_reducible repeat (first | refine blk_drewN ?_ _ | refine blk_drew ?_ | refine blk_alloc ?_ _)); exact BK467.out⟩, ⟨by repeat (first | (with_reducible first | exact HB.out | apply below_alloc | apply pw_below_drewN | apply below_drew1 | refine below_set ?_ GE466.out | refine below_set ?_ GE467.out) | exact HB.out)⟩⟩
   ·rw [if_neg c7] at H
    have c7b0 : (a0_1 == a1_1) = false := beq_eq_false_iff_ne.mpr c7
    have c7b1 : (a0_1 != a1_1) = true := bne_iff_ne.mpr c7
    have H' := asd H
    clear H
    have hnb15 := NB466_467.out
    have hnc15 := NB467_466.out
    have hcz16_0 : w5.cell? ⟨gb466, 0, none⟩ = some (.int .i64 a0_0) := (blk_cell BK466.out 0).trans rfl
    have hcz16_1 : w5.cell? ⟨gb466, 1, none⟩ = some (.int .i64 a0_1) := (blk_cell BK466.out 1).trans rfl
    have hcz16_2 : w5.cell? ⟨gb466, 2, none⟩ = some (.slice A0_2 l0_2.length c0_2) := (blk_cell BK466.out 2).trans rfl
    have hcz16_3 : w5.cell? ⟨gb466, 3, none⟩ = some (.slice A0_3 l0_3.length c0_3) := (blk_cell BK466.out 3).trans rfl
    have hfz16_0 := blk_frozen BK466.out 0
    have hfz16_1 := blk_frozen BK466.out 1
    have hfz16_2 := blk_frozen BK466.out 2
    have hfz16_3 := blk_frozen BK466.out 3
    have hcz17_0 : w5.cell? ⟨gb467, 0, none⟩ = some (.int .i64 a1_0) := (blk_cell BK467.out 0).trans rfl
    have hcz17_1 : w5.cell? ⟨gb467, 1, none⟩ = some (.int .i64 a1_1) := (blk_cell BK467.out 1).trans rfl
    have hcz17_2 : w5.cell? ⟨gb467, 2, none⟩ = some (.slice A1_2 l1_2.length c1_2) := (blk_cell BK467.out 2).trans rfl
    have hcz17_3 : w5.cell? ⟨gb467, 3, none⟩ = some (.slice A1_3 l1_3.length c1_3) := (blk_cell BK467.out 3).trans rfl
    have hfz17_0 := blk_frozen BK467.out 0
    have hfz17_1 := blk_frozen BK467.out 1
    have hfz17_2 := blk_frozen BK467.out 2
    have hfz17_3 := blk_frozen BK467.out 3
    go_wp2
    repeat (go_quiet (fail); try go_wp2)
    go_meet
    case rel => exact ⟨_, (true), (by first | rfl | (simp; done) | (simp [*]; done)), H', ⟨by first | omega | exact Nat.le_refl _⟩, ⟨by (with_reducible repeat (first | refine blk_drewN ?_ _ | refine blk_drew ?_ | refine blk_alloc ?_ _)); exact BK466.out⟩, ⟨by (with_reducible repeat (first | refine blk_drewN ?_ _ | refine blk_drew ?_ | refine blk_alloc ?_ _)); exact BK467.out⟩, ⟨by repeat (first | (with_reducible first | exact HB.out | apply below_alloc | apply pw_below_drewN | apply below_drew1 | refine below_set ?_ GE466.out | refine below_set ?_ GE467.out) | exact HB.out)⟩⟩
  ·rw [if_neg c6] at H
   have c6b0 : (a0_0 == a1_0) = false := beq_eq_false_iff_ne.mpr c6
   have c6b1 : (a0_0 != a1_0) = true := bne_iff_ne.mpr c6
   (first | rw [c6b0] | (simp only [i64_w, i32_w]; rw [c6b0]) | skip)
   have H' := asd H
   clear H
   have hnb18 := NB466_467.out
   have hnc18 := NB467_466.out
   have hcz19_0 : w5.cell? ⟨gb466, 0, none⟩ = some (.int .i64 a0_0) := (blk_cell BK466.out 0).trans rfl
   have hcz19_1 : w5.cell? ⟨gb466, 1, none⟩ = some (.int .i64 a0_1) := (blk_cell BK466.out 1).trans rfl
   have hcz19_2 : w5.cell? ⟨gb466, 2, none⟩ = some (.slice A0_2 l0_2.length c0_2) := (blk_cell BK466.out 2).trans rfl
   have hcz19_3 : w5.cell? ⟨gb466, 3, none⟩ = some (.slice A0_3 l0_3.length c0_3) := (blk_cell BK466.out 3).trans rfl
   have hfz19_0 := blk_frozen BK466.out 0
   have hfz19_1 := blk_frozen BK466.out 1
   have hfz19_2 := blk_frozen BK466.out 2
   have hfz19_3 := blk_frozen BK466.out 3
   have hcz20_0 : w5.cell? ⟨gb467, 0, none⟩ = some (.int .i64 a1_0) := (blk_cell BK467.out 0).trans rfl
   have hcz20_1 : w5.cell? ⟨gb467, 1, none⟩ = some (.int .i64 a1_1) := (blk_cell BK467.out 1).trans rfl
   have hcz20_2 : w5.cell? ⟨gb467, 2, none⟩ = some (.slice A1_2 l1_2.length c1_2) := (blk_cell BK467.out 2).trans rfl
   have hcz20_3 : w5.cell? ⟨gb467, 3, none⟩ = some (.slice A1_3 l1_3.length c1_3) := (blk_cell BK467.out 3).trans rfl
   have hfz20_0 := blk_frozen BK467.out 0
   have hfz20_1 := blk_frozen BK467.out 1
   have hfz20_2 := blk_frozen BK467.out 2
   have hfz20_3 := blk_frozen BK467.out 3
   go_wp2
   repeat (go_quiet (fail); try go_wp2)
   go_meet
   case rel => exact ⟨_, (true), (by first | rfl | (simp; done) | (simp [*]; done)), H', ⟨by first | omega | exact Nat.le_refl _⟩, ⟨by (with_reducible repeat (first | refine blk_drewN ?_ _ | refine blk_drew ?_ | refine blk_alloc ?_ _)); exact BK466.out⟩, ⟨by (with_reducible repeat (first | refine blk_drewN ?_ _ | refine blk_drew ?_ | refine blk_alloc ?_ _)); exact BK467.out⟩, ⟨by repeat (first | (with_reducible first | exact HB.out | apply below_alloc | apply pw_below_drewN | apply below_drew1 | refine below_set ?_ GE466.out | refine below_set ?_ GE467.out) | exact HB.out)⟩⟩
 case rest =>
  clear HC3; try clear c1; try clear p2; try clear c4; try clear c6; try clear c6b0; try clear c6b1; try clear c7; try clear c7b0; try clear c7b1; try clear c8; try clear c8b0; try clear c8b1; try clear c8b2; try clear c9; try clear c12; try clear c15; try clear c18; try clear hcz10_0; try clear hcz10_1; try clear hcz10_2; try clear hcz10_3; try clear hcz11_0; try clear hcz11_1; try clear hcz11_2; try clear hcz11_3; try clear hcz13_0; try clear hcz13_1; try clear hcz13_2; try clear hcz13_3; try clear hcz14_0; try clear hcz14_1; try clear hcz14_2; try clear hcz14_3; try clear hcz16_0; try clear hcz16_1; try clear hcz16_2; try clear hcz16_3; try clear hcz17_0; try clear hcz17_1; try clear hcz17_2; try clear hcz17_3; try clear hcz19_0; try clear hcz19_1; try clear hcz19_2; try clear hcz19_3; try clear hcz20_0; try clear hcz20_1; try clear hcz20_2; try clear hcz20_3; try clear hfz10_0; try clear hfz10_1; try clear hfz10_2; try clear hfz10_3; try clear hfz11_0; try clear hfz11_1; try clear hfz11_2; try clear hfz11_3; try clear hfz13_0; try clear hfz13_1; try clear hfz13_2; try clear hfz13_3; try clear hfz14_0; try clear hfz14_1; try clear hfz14_2; try clear hfz14_3; try clear hfz16_0; try clear hfz16_1; try clear hfz16_2; try clear hfz16_3; try clear hfz17_0; try clear hfz17_1; try clear hfz17_2; try clear hfz17_3; try clear hfz19_0; try clear hfz19_1; try clear hfz19_2; try clear hfz19_3; try clear hfz20_0; try clear hfz20_1; try clear hfz20_2; try clear hfz20_3
  obtain ⟨kq, x36_2, rfl, HA, HJ2, BK466, BK467, HB⟩ := hcut
  cases kq with
  | zero => exact absurd HA.out (by simp [laws_sameLoop.j0])
  | succ kj2 =>
   have H := HA.out
   clear HA
   simp only [laws_sameLoop.j0] at H
   by_cases c21 : x36_2 = true
   ·subst c21
    have H1 : (some false) = some r := by rw [if_pos rfl] at H; exact H
    clear H
    have H := H1
    clear H1
    obtain rfl := Option.some.inj H
    go_wp2
    repeat (go_quiet (fail); try go_wp2)
    go_ret
    exact ⟨by first | rfl | (simp [errW_none, errW_some] <;> rfl) | (simp [*, errW_none, errW_some] <;> rfl), by repeat (first | (with_reducible first | exact HB.out | apply below_alloc | apply pw_below_drewN | apply below_drew1 | refine below_set ?_ GE466.out | refine below_set ?_ GE467.out) | exact HB.out)⟩
   ·replace c21 := Bool.eq_false_iff.mpr c21
    subst c21
    have H1 : (laws_sameLoop.l0 kj2 0 a0_0 a0_1 l0_2 l0_3 a1_0 a1_1 l1_2 l1_3) = some r := by rw [if_neg (show ¬ (false = true) by decide)] at H; exact H
    clear H
    have H := H1
    clear H1
    have H' := asd H
    clear H
    go_wp2
    repeat (go_quiet (fail); try go_wp2)
    go_loopg [5] kj2 (fun kq v5 w' => ∃ (x5_2 : Int), v5 = .int .i64 x5_2 ∧ Aside0 (laws_sameLoop.l0 kq x5_2 a0_0 a0_1 l0_2 l0_3 a1_0 a1_1 l1_2 l1_3 = some r) ∧ Aside0 (kq ≤ kj2) ∧ Aside0 (w'.heap[gb466]? = some (.cells #[.int .i64 a0_0, .int .i64 a0_1, (.slice A0_2 l0_2.length c0_2), (.slice A0_3 l0_3.length c0_3)] 27 (0, 0))) ∧ Aside0 (w'.heap[gb467]? = some (.cells #[.int .i64 a1_0, .int .i64 a1_1, (.slice A1_2 l1_2.length c1_2), (.slice A1_3 l1_3.length c1_3)] 27 (0, 0))) ∧ Aside0 (Below w.heap.size w w'))
    case atStart => exact ⟨(0), (by first | rfl | (simp; done) | (simp [*]; done)), H', ⟨Nat.le_refl _⟩, ⟨by (with_reducible repeat (first | refine blk_drewN ?_ _ | refine blk_drew ?_ | refine blk_alloc ?_ _)); exact BK466.out⟩, ⟨by (with_reducible repeat (first | refine blk_drewN ?_ _ | refine blk_drew ?_ | refine blk_alloc ?_ _)); exact BK467.out⟩, ⟨by repeat (first | (with_reducible first | exact HB.out | apply below_alloc | apply pw_below_drewN | apply below_drew1 | refine below_set ?_ GE466.out | refine below_set ?_ GE467.out) | exact HB.out)⟩⟩
    case round =>
     clear H'; try clear c2; try clear c21
     obtain ⟨x5_2, rfl, HA, HK2, BK466, BK467, HB⟩ := hrel
     cases gk with
     | zero => exact absurd HA.out (by simp [laws_sameLoop.l0])
     | succ k2 =>
      have H := HA.out
      clear HA
      simp only [laws_sameLoop.l0] at H
      by_cases c22 : x5_2 < (l0_2.length : Int)
      ·rw [if_pos c22] at H
       have c22b0 : decide (x5_2 < (l0_2.length : Int)) = true := decide_eq_true c22
       clear c22
       by_cases c23 : 0 ≤ x5_2
       ·rw [if_pos c23] at H
        have c23b0 : decide (0 ≤ x5_2) = true := decide_eq_true c23
        clear c23
        by_cases c24 : x5_2 < (l1_2.length : Int)
        ·rw [if_pos c24] at H
         have c24b0 : decide (x5_2 < (l1_2.length : Int)) = true := decide_eq_true c24
         clear c24
         replace H := Option.bind_eq_some_iff.mp H
         obtain ⟨t470, A250, H⟩ := H
         replace H : (if t470 = true then (laws_sameLoop.l0 k2 (wrap64 (x5_2 + 1)) a0_0 a0_1 l0_2 l0_3 a1_0 a1_1 l1_2 l1_3) else (some false)) = some r := H
         have A25 := asd A250
         clear A250
         by_cases c26 : t470 = true
         ·subst c26
          have H1 : (laws_sameLoop.l0 k2 (wrap64 (x5_2 + 1)) a0_0 a0_1 l0_2 l0_3 a1_0 a1_1 l1_2 l1_3) = some r := by rw [if_pos rfl] at H; exact H
          clear H
          have H := H1
          clear H1
          have H' := asd H
          clear H
          have hnb27 := NB466_467.out
          have hnc27 := NB467_466.out
          have hcz28_0 : wr.cell? ⟨gb466, 0, none⟩ = some (.int .i64 a0_0) := (blk_cell BK466.out 0).trans rfl
          have hcz28_1 : wr.cell? ⟨gb466, 1, none⟩ = some (.int .i64 a0_1) := (blk_cell BK466.out 1).trans rfl
          have hcz28_2 : wr.cell? ⟨gb466, 2, none⟩ = some (.slice A0_2 l0_2.length c0_2) := (blk_cell BK466.out 2).trans rfl
          have hcz28_3 : wr.cell? ⟨gb466, 3, none⟩ = some (.slice A0_3 l0_3.length c0_3) := (blk_cell BK466.out 3).trans rfl
          have hfz28_0 := blk_frozen BK466.out 0
          have hfz28_1 := blk_frozen BK466.out 1
          have hfz28_2 := blk_frozen BK466.out 2
          have hfz28_3 := blk_frozen BK466.out 3
          have p468 : 0 ≤ (x5_2 : Int) := of_decide_eq_true (by first | (with_reducible assumption) | assumption)
          have q468 : x5_2 < (l0_2.length : Int) := of_decide_eq_true (by first | (with_reducible assumption) | assumption)
          obtain ⟨ad468, A468_0, c468_0, e468, hx468_0, hl468_0, hi468_0⟩ := at_L1 HR0_2.out x5_2 p468 q468
          cases e468
          replace hx468_0 := (HB.out.cell (World.block_lt_of_cell? w _ hx468_0)).trans hx468_0
          have HR468_0 := asd hi468_0
          have HC468_0 := asd hl468_0
          clear hi468_0 hl468_0
          replace p468 := eq_true p468
          replace q468 := eq_true q468
          have hcz29_0 : wr.cell? ⟨gb467, 0, none⟩ = some (.int .i64 a1_0) := (blk_cell BK467.out 0).trans rfl
          have hcz29_1 : wr.cell? ⟨gb467, 1, none⟩ = some (.int .i64 a1_1) := (blk_cell BK467.out 1).trans rfl
          have hcz29_2 : wr.cell? ⟨gb467, 2, none⟩ = some (.slice A1_2 l1_2.length c1_2) := (blk_cell BK467.out 2).trans rfl
          have hcz29_3 : wr.cell? ⟨gb467, 3, none⟩ = some (.slice A1_3 l1_3.length c1_3) := (blk_cell BK467.out 3).trans rfl
          have hfz29_0 := blk_frozen BK467.out 0
          have hfz29_1 := blk_frozen BK467.out 1
          have hfz29_2 := blk_frozen BK467.out 2
          have hfz29_3 := blk_frozen BK467.out 3
          have p469 : 0 ≤ (x5_2 : Int) := of_decide_eq_true (by first | (with_reducible assumption) | assumption)
          have q469 : x5_2 < (l1_2.length : Int) := of_decide_eq_true (by first | (with_reducible assumption) | assumption)
          obtain ⟨ad469, A469_0, c469_0, e469, hx469_0, hl469_0, hi469_0⟩ := at_L1 HR1_2.out x5_2 p469 q469
          cases e469
          replace hx469_0 := (HB.out.cell (World.block_lt_of_cell? w _ hx469_0)).trans hx469_0
          have HR469_0 := asd hi469_0
          have HC469_0 := asd hl469_0
          clear hi469_0 hl469_0
          replace p469 := eq_true p469
          replace q469 := eq_true q469
          go_wp2_with (first | (go_at_call 44; (with_reducible refine (laws_sameFlags.calls k2 _ _ (rd_L1 l0_2 x5_2) _ _ (rd_L1 l1_2 x5_2) true _ ?side1 ?side2 ?side3 ?side4 A25.out).mono ?_); (case side1 => repeat (first | exact (Kd.C_below HR468_0.out HB.out) | (with_reducible refine Kd.C_alloc ?_ _) | (with_reducible refine Kd.C_drewN ?_ _) | (with_reducible refine Kd.C_drew ?_))); (case side2 => exact HC468_0.out); (case side3 => repeat (first | exact (Kd.C_below HR469_0.out HB.out) | (with_reducible refine Kd.C_alloc ?_ _) | (with_reducible refine Kd.C_drewN ?_ _) | (with_reducible refine Kd.C_drew ?_))); (case side4 => exact HC469_0.out); rintro e w' ⟨rfl, ⟨nd, rfl⟩⟩; (try first | exact ⟨rfl, _, World.drewN_drewN _ _ _⟩ | exact ⟨rfl, _, Eq.trans (World.drewN_drewN _ _ _) (congrArg (World.drewN _) (Nat.add_assoc _ _ _))⟩)))
          repeat (go_quiet (first | (go_at_call 44; (with_reducible refine (laws_sameFlags.calls k2 _ _ (rd_L1 l0_2 x5_2) _ _ (rd_L1 l1_2 x5_2) true _ ?side1 ?side2 ?side3 ?side4 A25.out).mono ?_); (case side1 => repeat (first | exact (Kd.C_below HR468_0.out HB.out) | (with_reducible refine Kd.C_alloc ?_ _) | (with_reducible refine Kd.C_drewN ?_ _) | (with_reducible refine Kd.C_drew ?_))); (case side2 => exact HC468_0.out); (case side3 => repeat (first | exact (Kd.C_below HR469_0.out HB.out) | (with_reducible refine Kd.C_alloc ?_ _) | (with_reducible refine Kd.C_drewN ?_ _) | (with_reducible refine Kd.C_drew ?_))); (case side4 => exact HC469_0.out); rintro e w' ⟨rfl, ⟨nd, rfl⟩⟩; (try first | exact ⟨rfl, _, World.drewN_drewN _ _ _⟩ | exact ⟨rfl, _, Eq.trans (World.drewN_drewN _ _ _) (congrArg (World.drewN _) (Nat.add_assoc _ _ _))⟩))); try go_wp2_with (first | (go_at_call 44; (with_reducible refine (laws_sameFlags.calls k2 _ _ (rd_L1 l0_2 x5_2) _ _ (rd_L1 l1_2 x5_2) true _ ?side1 ?side2 ?side3 ?side4 A25.out).mono ?_); (case side1 => repeat (first | exact (Kd.C_below HR468_0.out HB.out) | (with_reducible refine Kd.C_alloc ?_ _) | (with_reducible refine Kd.C_drewN ?_ _) | (with_reducible refine Kd.C_drew ?_))); (case side2 => exact HC468_0.out); (case side3 => repeat (first | exact (Kd.C_below HR469_0.out HB.out) | (with_reducible refine Kd.C_alloc ?_ _) | (with_reducible refine Kd.C_drewN ?_ _) | (with_reducible refine Kd.C_drew ?_))); (case side4 => exact HC469_0.out); rintro e w' ⟨rfl, ⟨nd, rfl⟩⟩; (try first | exact ⟨rfl, _, World.drewN_drewN _ _ _⟩ | exact ⟨rfl, _, Eq.trans (World.drewN_drewN _ _ _) (congrArg (World.drewN _) (Nat.add_assoc _ _ _))⟩))))
          go_roundg k2
          case measure => have := HJ2.out; have := HK2.out; omega
          case rel => exact ⟨(wrap64 (x5_2 + 1)), (by first | rfl | (simp; done) | (simp [*]; done)), H', ⟨by have := HJ2.out; have := HK2.out; omega⟩, ⟨by (with_reducible repeat (first | refine blk_drewN ?_ _ | refine blk_drew ?_ | refine blk_alloc ?_ _)); exact BK466.out⟩, ⟨by (with_reducible repeat (first | refine blk_drewN ?_ _ | refine blk_drew ?_ | refine blk_alloc ?_ _)); exact BK467.out⟩, ⟨by repeat (first | (with_reducible first | exact HB.out | apply below_alloc | apply pw_below_drewN | apply below_drew1 | refine below_set ?_ GE466.out | refine below_set ?_ GE467.out) | exact HB.out)⟩⟩
         ·replace c26 := Bool.eq_false_iff.mpr c26
          subst c26
          have H1 : (some false) = some r := by rw [if_neg (show ¬ (false = true) by decide)] at H; exact H
          clear H
          have H := H1
          clear H1
          obtain rfl := Option.some.inj H
          have hnb30 := NB466_467.out
          have hnc30 := NB467_466.out
          have hcz31_0 : wr.cell? ⟨gb466, 0, none⟩ = some (.int .i64 a0_0) := (blk_cell BK466.out 0).trans rfl
          have hcz31_1 : wr.cell? ⟨gb466, 1, none⟩ = some (.int .i64 a0_1) := (blk_cell BK466.out 1).trans rfl
          have hcz31_2 : wr.cell? ⟨gb466, 2, none⟩ = some (.slice A0_2 l0_2.length c0_2) := (blk_cell BK466.out 2).trans rfl
          have hcz31_3 : wr.cell? ⟨gb466, 3, none⟩ = some (.slice A0_3 l0_3.length c0_3) := (blk_cell BK466.out 3).trans rfl
          have hfz31_0 := blk_frozen BK466.out 0
          have hfz31_1 := blk_frozen BK466.out 1
          have hfz31_2 := blk_frozen BK466.out 2
          have hfz31_3 := blk_frozen BK466.out 3
          have p468 : 0 ≤ (x5_2 : Int) := of_decide_eq_true (by first | (with_reducible assumption) | assumption)
          have q468 : x5_2 < (l0_2.length : Int) := of_decide_eq_true (by first | (with_reducible assumption) | assumption)
          obtain ⟨ad468, A468_0, c468_0, e468, hx468_0, hl468_0, hi468_0⟩ := at_L1 HR0_2.out x5_2 p468 q468
          cases e468
          replace hx468_0 := (HB.out.cell (World.block_lt_of_cell? w _ hx468_0)).trans hx468_0
          have HR468_0 := asd hi468_0
          have HC468_0 := asd hl468_0
          clear hi468_0 hl468_0
          replace p468 := eq_true p468
          replace q468 := eq_true q468
          have hcz32_0 : wr.cell? ⟨gb467, 0, none⟩ = some (.int .i64 a1_0) := (blk_cell BK467.out 0).trans rfl
          have hcz32_1 : wr.cell? ⟨gb467, 1, none⟩ = some (.int .i64 a1_1) := (blk_cell BK467.out 1).trans rfl
          have hcz32_2 : wr.cell? ⟨gb467, 2, none⟩ = some (.slice A1_2 l1_2.length c1_2) := (blk_cell BK467.out 2).trans rfl
          have hcz32_3 : wr.cell? ⟨gb467, 3, none⟩ = some (.slice A1_3 l1_3.length c1_3) := (blk_cell BK467.out 3).trans rfl
          have hfz32_0 := blk_frozen BK467.out 0
          have hfz32_1 := blk_frozen BK467.out 1
          have hfz32_2 := blk_frozen BK467.out 2
          have hfz32_3 := blk_frozen BK467.out 3
          have p469 : 0 ≤ (x5_2 : Int) := of_decide_eq_true (by first | (with_reducible assumption) | assumption)
          have q469 : x5_2 < (l1_2.length : Int) := of_decide_eq_true (by first | (with_reducible assumption) | assumption)
          obtain ⟨ad469, A469_0, c469_0, e469, hx469_0, hl469_0, hi469_0⟩ := at_L1 HR1_2.out x5_2 p469 q469
          cases e469
          replace hx469_0 := (HB.out.cell (World.block_lt_of_cell? w _ hx469_0)).trans hx469_0
          have HR469_0 := asd hi469_0
          have HC469_0 := asd hl469_0
          clear hi469_0 hl469_0
          replace p469 := eq_true p469
          replace q469 := eq_true q469
          go_wp2_with (first | (go_at_call 44; (with_reducible refine (laws_sameFlags.calls k2 _ _ (rd_L1 l0_2 x5_2) _ _ (rd_L1 l1_2 x5_2) false _ ?side1 ?side2 ?side3 ?side4 A25.out).mono ?_); (case side1 => repeat (first | exact (Kd.C_below HR468_0.out HB.out) | (with_reducible refine Kd.C_alloc ?_ _) | (with_reducible refine Kd.C_drewN ?_ _) | (with_reducible refine Kd.C_drew ?_))); (case side2 => exact HC468_0.out); (case side3 => repeat (first | exact (Kd.C_below HR469_0.out HB.out) | (with_reducible refine Kd.C_alloc ?_ _) | (with_reducible refine Kd.C_drewN ?_ _) | (with_reducible refine Kd.C_drew ?_))); (case side4 => exact HC469_0.out); rintro e w' ⟨rfl, ⟨nd, rfl⟩⟩; (try first | exact ⟨rfl, _, World.drewN_drewN _ _ _⟩ | exact ⟨rfl, _, Eq.trans (World.drewN_drewN _ _ _) (congrArg (World.drewN _) (Nat.add_assoc _ _ _))⟩)))
          repeat (go_quiet (first | (go_at_call 44; (with_reducible refine (laws_sameFlags.calls k2 _ _ (rd_L1 l0_2 x5_2) _ _ (rd_L1 l1_2 x5_2) false _ ?side1 ?side2 ?side3 ?side4 A25.out).mono ?_); (case side1 => repeat (first | exact (Kd.C_below HR468_0.out HB.out) | (with_reducible refine Kd.C_alloc ?_ _) | (with_reducible refine Kd.C_drewN ?_ _) | (with_reducible refine Kd.C_drew ?_))); (case side2 => exact HC468_0.out); (case side3 => repeat (first | exact (Kd.C_below HR469_0.out HB.out) | (with_reducible refine Kd.C_alloc ?_ _) | (with_reducible refine Kd.C_drewN ?_ _) | (with_reducible refine Kd.C_drew ?_))); (case side4 => exact HC469_0.out); rintro e w' ⟨rfl, ⟨nd, rfl⟩⟩; (try first | exact ⟨rfl, _, World.drewN_drewN _ _ _⟩ | exact ⟨rfl, _, Eq.trans (World.drewN_drewN _ _ _) (congrArg (World.drewN _) (Nat.add_assoc _ _ _))⟩))); try go_wp2_with (first | (go_at_call 44; (with_reducible refine (laws_sameFlags.calls k2 _ _ (rd_L1 l0_2 x5_2) _ _ (rd_L1 l1_2 x5_2) false _ ?side1 ?side2 ?side3 ?side4 A25.out).mono ?_); (case side1 => repeat (first | exact (Kd.C_below HR468_0.out HB.out) | (with_reducible refine Kd.C_alloc ?_ _) | (with_reducible refine Kd.C_drewN ?_ _) | (with_reducible refine Kd.C_drew ?_))); (case side2 => exact HC468_0.out); (case side3 => repeat (first | exact (Kd.C_below HR469_0.out HB.out) | (with_reducible refine Kd.C_alloc ?_ _) | (with_reducible refine Kd.C_drewN ?_ _) | (with_reducible refine Kd.C_drew ?_))); (case side4 => exact HC469_0.out); rintro e w' ⟨rfl, ⟨nd, rfl⟩⟩; (try first | exact ⟨rfl, _, World.drewN_drewN _ _ _⟩ | exact ⟨rfl, _, Eq.trans (World.drewN_drewN _ _ _) (congrArg (World.drewN _) (Nat.add_assoc _ _ _))⟩))))
          go_ret
          exact ⟨by first | rfl | (simp [errW_none, errW_some] <;> rfl) | (simp [*, errW_none, errW_some] <;> rfl), by repeat (first | (with_reducible first | exact HB.out | apply below_alloc | apply pw_below_drewN | apply below_drew1 | refine below_set ?_ GE466.out | refine below_set ?_ GE467.out) | exact HB.out)⟩
        ·rw [if_neg c24] at H
         exact absurd H (by simp)
       ·rw [if_neg c23] at H
        exact absurd H (by simp)
      ·rw [if_neg c22] at H
       have c22b0 : decide (x5_2 < (l0_2.length : Int)) = false := decide_eq_false c22
       clear c22
       have H' := asd H
       clear H
       have hnb33 := NB466_467.out
       have hnc33 := NB467_466.out
       have hcz34_0 : wr.cell? ⟨gb466, 0, none⟩ = some (.int .i64 a0_0) := (blk_cell BK466.out 0).trans rfl
       have hcz34_1 : wr.cell? ⟨gb466, 1, none⟩ = some (.int .i64 a0_1) := (blk_cell BK466.out 1).trans rfl
       have hcz34_2 : wr.cell? ⟨gb466, 2, none⟩ = some (.slice A0_2 l0_2.length c0_2) := (blk_cell BK466.out 2).trans rfl
       have hcz34_3 : wr.cell? ⟨gb466, 3, none⟩ = some (.slice A0_3 l0_3.length c0_3) := (blk_cell BK466.out 3).trans rfl
       have hfz34_0 := blk_frozen BK466.out 0
       have hfz34_1 := blk_frozen BK466.out 1
       have hfz34_2 := blk_frozen BK466.out 2
       have hfz34_3 := blk_frozen BK466.out 3
       go_wp2
       repeat (go_quiet (fail); try go_wp2)
       go_loopg [6] k2 (fun kq v6 w' => ∃ (x6_3 : Int), v6 = .int .i64 x6_3 ∧ Aside0 (laws_sameLoop.l1 kq x6_3 a0_0 a0_1 l0_2 l0_3 a1_0 a1_1 l1_2 l1_3 = some r) ∧ Aside0 (kq ≤ k2) ∧ Aside0 (w'.heap[gb466]? = some (.cells #[.int .i64 a0_0, .int .i64 a0_1, (.slice A0_2 l0_2.length c0_2), (.slice A0_3 l0_3.length c0_3)] 27 (0, 0))) ∧ Aside0 (w'.heap[gb467]? = some (.cells #[.int .i64 a1_0, .int .i64 a1_1, (.slice A1_2 l1_2.length c1_2), (.slice A1_3 l1_3.length c1_3)] 27 (0, 0))) ∧ Aside0 (Below w.heap.size w w'))
       case atStart => exact ⟨(0), (by first | rfl | (simp; done) | (simp [*]; done)), H', ⟨Nat.le_refl _⟩, ⟨by (with_reducible repeat (first | refine blk_drewN ?_ _ | refine blk_drew ?_ | refine blk_alloc ?_ _)); exact BK466.out⟩, ⟨by (with_reducible repeat (first | refine blk_drewN ?_ _ | refine blk_drew ?_ | refine blk_alloc ?_ _)); exact BK467.out⟩, ⟨by repeat (first | (with_reducible first | exact HB.out | apply below_alloc | apply pw_below_drewN | apply below_drew1 | refine below_set ?_ GE466.out | refine below_set ?_ GE467.out) | exact HB.out)⟩⟩
       case round =>
        clear H'; try clear c3; try clear p4; try clear q4; try clear hx4; try clear p6; try clear c22b0; try clear c23; try clear c23b0; try clear c24; try clear c24b0; try clear c26; try clear c27; try clear c30; try clear c33; try clear hcz28_0; try clear hcz28_1; try clear hcz28_2; try clear hcz28_3; try clear hcz29_0; try clear hcz29_1; try clear hcz29_2; try clear hcz29_3; try clear hcz31_0; try clear hcz31_1; try clear hcz31_2; try clear hcz31_3; try clear hcz32_0; try clear hcz32_1; try clear hcz32_2; try clear hcz32_3; try clear hcz34_0; try clear hcz34_1; try clear hcz34_2; try clear hcz34_3; try clear hfz28_0; try clear hfz28_1; try clear hfz28_2; try clear hfz28_3; try clear hfz29_0; try clear hfz29_1; try clear hfz29_2; try clear hfz29_3; try clear hfz31_0; try clear hfz31_1; try clear hfz31_2; try clear hfz31_3; try clear hfz32_0; try clear hfz32_1; try clear hfz32_2; try clear hfz32_3; try clear hfz34_0; try clear hfz34_1; try clear hfz34_2; try clear hfz34_3; try clear hx468_0; try clear hx469_0; try clear p468; try clear p469; try clear q468; try clear q469
        obtain ⟨x6_3, rfl, HA, HK3, BK466, BK467, HB⟩ := hrel
        cases gk with
        | zero => exact absurd HA.out (by simp [laws_sameLoop.l1])
        | succ k3 =>
         have H := HA.out
         clear HA
         simp only [laws_sameLoop.l1] at H
         by_cases c35 : x6_3 < (l0_3.length : Int)
         ·rw [if_pos c35] at H
          have c35b0 : decide (x6_3 < (l0_3.length : Int)) = true := decide_eq_true c35
          clear c35
          by_cases c36 : 0 ≤ x6_3
          ·rw [if_pos c36] at H
           have c36b0 : decide (0 ≤ x6_3) = true := decide_eq_true c36
           clear c36
           by_cases c37 : x6_3 < (l1_3.length : Int)
           ·rw [if_pos c37] at H
            have c37b0 : decide (x6_3 < (l1_3.length : Int)) = true := decide_eq_true c37
            clear c37
            replace H := Option.bind_eq_some_iff.mp H
            obtain ⟨t473, A380, H⟩ := H
            replace H : (if t473 = true then (laws_sameLoop.l1 k3 (wrap64 (x6_3 + 1)) a0_0 a0_1 l0_2 l0_3 a1_0 a1_1 l1_2 l1_3) else (some false)) = some r := H
            have A38 := asd A380
            clear A380
            by_cases c39 : t473 = true
            ·subst c39
             have H1 : (laws_sameLoop.l1 k3 (wrap64 (x6_3 + 1)) a0_0 a0_1 l0_2 l0_3 a1_0 a1_1 l1_2 l1_3) = some r := by rw [if_pos rfl] at H; exact H
             clear H
             have H := H1
             clear H1
             have H' := asd H
             clear H
             have hnb40 := NB466_467.out
             have hnc40 := NB467_466.out
             have hcz41_0 : wr.cell? ⟨gb466, 0, none⟩ = some (.int .i64 a0_0) := (blk_cell BK466.out 0).trans rfl
             have hcz41_1 : wr.cell? ⟨gb466, 1, none⟩ = some (.int .i64 a0_1) := (blk_cell BK466.out 1).trans rfl
             have hcz41_2 : wr.cell? ⟨gb466, 2, none⟩ = some (.slice A0_2 l0_2.length c0_2) := (blk_cell BK466.out 2).trans rfl
             have hcz41_3 : wr.cell? ⟨gb466, 3, none⟩ = some (.slice A0_3 l0_3.length c0_3) := (blk_cell BK466.out 3).trans rfl
             have hfz41_0 := blk_frozen BK466.out 0
             have hfz41_1 := blk_frozen BK466.out 1
             have hfz41_2 := blk_frozen BK466.out 2
             have hfz41_3 := blk_frozen BK466.out 3
             have p471 : 0 ≤ (x6_3 : Int) := of_decide_eq_true (by first | (with_reducible assumption) | assumption)
             have q471 : x6_3 < (l0_3.length : Int) := of_decide_eq_true (by first | (with_reducible assumption) | assumption)
             obtain ⟨ad471, A471_0, c471_0, e471, hx471_0, hl471_0, hi471_0⟩ := at_L1 HR0_3.out x6_3 p471 q471
             cases e471
             replace hx471_0 := (HB.out.cell (World.block_lt_of_cell? w _ hx471_0)).trans hx471_0
             have HR471_0 := asd hi471_0
             have HC471_0 := asd hl471_0
             clear hi471_0 hl471_0
             replace p471 := eq_true p471
             replace q471 := eq_true q471
             have hcz42_0 : wr.cell? ⟨gb467, 0, none⟩ = some (.int .i64 a1_0) := (blk_cell BK467.out 0).trans rfl
             have hcz42_1 : wr.cell? ⟨gb467, 1, none⟩ = some (.int .i64 a1_1) := (blk_cell BK467.out 1).trans rfl
             have hcz42_2 : wr.cell? ⟨gb467, 2, none⟩ = some (.slice A1_2 l1_2.length c1_2) := (blk_cell BK467.out 2).trans rfl
             have hcz42_3 : wr.cell? ⟨gb467, 3, none⟩ = some (.slice A1_3 l1_3.length c1_3) := (blk_cell BK467.out 3).trans rfl
             have hfz42_0 := blk_frozen BK467.out 0
             have hfz42_1 := blk_frozen BK467.out 1
             have hfz42_2 := blk_frozen BK467.out 2
             have hfz42_3 := blk_frozen BK467.out 3
             have p472 : 0 ≤ (x6_3 : Int) := of_decide_eq_true (by first | (with_reducible assumption) | assumption)
             have q472 : x6_3 < (l1_3.length : Int) := of_decide_eq_true (by first | (with_reducible assumption) | assumption)
             obtain ⟨ad472, A472_0, c472_0, e472, hx472_0, hl472_0, hi472_0⟩ := at_L1 HR1_3.out x6_3 p472 q472
             cases e472
             replace hx472_0 := (HB.out.cell (World.block_lt_of_cell? w _ hx472_0)).trans hx472_0
             have HR472_0 := asd hi472_0
             have HC472_0 := asd hl472_0
             clear hi472_0 hl472_0
             replace p472 := eq_true p472
             replace q472 := eq_true q472
             go_wp2_with (first | (go_at_call 44; (with_reducible refine (laws_sameFlags.calls k3 _ _ (rd_L1 l0_3 x6_3) _ _ (rd_L1 l1_3 x6_3) true _ ?side1 ?side2 ?side3 ?side4 A38.out).mono ?_); (case side1 => repeat (first | exact (Kd.C_below HR471_0.out HB.out) | (with_reducible refine Kd.C_alloc ?_ _) | (with_reducible refine Kd.C_drewN ?_ _) | (with_reducible refine Kd.C_drew ?_))); (case side2 => exact HC471_0.out); (case side3 => repeat (first | exact (Kd.C_below HR472_0.out HB.out) | (with_reducible refine Kd.C_alloc ?_ _) | (with_reducible refine Kd.C_drewN ?_ _) | (with_reducible refine Kd.C_drew ?_))); (case side4 => exact HC472_0.out); rintro e w' ⟨rfl, ⟨nd, rfl⟩⟩; (try first | exact ⟨rfl, _, World.drewN_drewN _ _ _⟩ | exact ⟨rfl, _, Eq.trans (World.drewN_drewN _ _ _) (congrArg (World.drewN _) (Nat.add_assoc _ _ _))⟩)))
             repeat (go_quiet (first | (go_at_call 44; (with_reducible refine (laws_sameFlags.calls k3 _ _ (rd_L1 l0_3 x6_3) _ _ (rd_L1 l1_3 x6_3) true _ ?side1 ?side2 ?side3 ?side4 A38.out).mono ?_); (case side1 => repeat (first | exact (Kd.C_below HR471_0.out HB.out) | (with_reducible refine Kd.C_alloc ?_ _) | (with_reducible refine Kd.C_drewN ?_ _) | (with_reducible refine Kd.C_drew ?_))); (case side2 => exact HC471_0.out); (case side3 => repeat (first | exact (Kd.C_below HR472_0.out HB.out) | (with_reducible refine Kd.C_alloc ?_ _) | (with_reducible refine Kd.C_drewN ?_ _) | (with_reducible refine Kd.C_drew ?_))); (case side4 => exact HC472_0.out); rintro e w' ⟨rfl, ⟨nd, rfl⟩⟩; (try first | exact ⟨rfl, _, World.drewN_drewN _ _ _⟩ | exact ⟨rfl, _, Eq.trans (World.drewN_drewN _ _ _) (congrArg (World.drewN _) (Nat.add_assoc _ _ _))⟩))); try go_wp2_with (first | (go_at_call 44; (with_reducible refine (laws_sameFlags.calls k3 _ _ (rd_L1 l0_3 x6_3) _ _ (rd_L1 l1_3 x6_3) true _ ?side1 ?side2 ?side3 ?side4 A38.out).mono ?_); (case side1 => repeat (first | exact (Kd.C_below HR471_0.out HB.out) | (with_reducible refine Kd.C_alloc ?_ _) | (with_reducible refine Kd.C_drewN ?_ _) | (with_reducible refine Kd.C_drew ?_))); (case side2 => exact HC471_0.out); (case side3 => repeat (first | exact (Kd.C_below HR472_0.out HB.out) | (with_reducible refine Kd.C_alloc ?_ _) | (with_reducible refine Kd.C_drewN ?_ _) | (with_reducible refine Kd.C_drew ?_))); (case side4 => exact HC472_0.out); rintro e w' ⟨rfl, ⟨nd, rfl⟩⟩; (try first | exact ⟨rfl, _, World.drewN_drewN _ _ _⟩ | exact ⟨rfl, _, Eq.trans (World.drewN_drewN _ _ _) (congrArg (World.drewN _) (Nat.add_assoc _ _ _))⟩))))
             go_roundg k3
             case measure => have := HJ2.out; have := HK2.out; have := HK3.out; omega
             case rel => exact ⟨(wrap64 (x6_3 + 1)), (by first | rfl | (simp; done) | (simp [*]; done)), H', ⟨by have := HJ2.out; have := HK2.out; have := HK3.out; omega⟩, ⟨by (with_reducible repeat (first | refine blk_drewN ?_ _ | refine blk_drew ?_ | refine blk_alloc ?_ _)); exact BK466.out⟩, ⟨by (with_reducible repeat (first | refine blk_drewN ?_ _ | refine blk_drew ?_ | refine blk_alloc ?_ _)); exact BK467.out⟩, ⟨by repeat (first | (with_reducible first | exact HB.out | apply below_alloc | apply pw_below_drewN | apply below_drew1 | refine below_set ?_ GE466.out | refine below_set ?_ GE467.out) | exact HB.out)⟩⟩
            ·replace c39 := Bool.eq_false_iff.mpr c39
             subst c39
             have H1 : (some false) = some r := by rw [if_neg (show ¬ (false = true) by decide)] at H; exact H
             clear H
             have H := H1
             clear H1
             obtain rfl := Option.some.inj H
             have hnb43 := NB466_467.out
             have hnc43 := NB467_466.out
             have hcz44_0 : wr.cell? ⟨gb466, 0, none⟩ = some (.int .i64 a0_0) := (blk_cell BK466.out 0).trans rfl
             have hcz44_1 : wr.cell? ⟨gb466, 1, none⟩ = some (.int .i64 a0_1) := (blk_cell BK466.out 1).trans rfl
             have hcz44_2 : wr.cell? ⟨gb466, 2, none⟩ = some (.slice A0_2 l0_2.length c0_2) := (blk_cell BK466.out 2).trans rfl
             have hcz44_3 : wr.cell? ⟨gb466, 3, none⟩ = some (.slice A0_3 l0_3.length c0_3) := (blk_cell BK466.out 3).trans rfl
             have hfz44_0 := blk_frozen BK466.out 0
             have hfz44_1 := blk_frozen BK466.out 1
             have hfz44_2 := blk_frozen BK466.out 2
             have hfz44_3 := blk_frozen BK466.out 3
             have p471 : 0 ≤ (x6_3 : Int) := of_decide_eq_true (by first | (with_reducible assumption) | assumption)
             have q471 : x6_3 < (l0_3.length : Int) := of_decide_eq_true (by first | (with_reducible assumption) | assumption)
             obtain ⟨ad471, A471_0, c471_0, e471, hx471_0, hl471_0, hi471_0⟩ := at_L1 HR0_3.out x6_3 p471 q471
             cases e471
             replace hx471_0 := (HB.out.cell (World.block_lt_of_cell? w _ hx471_0)).trans hx471_0
             have HR471_0 := asd hi471_0
             have HC471_0 := asd hl471_0
             clear hi471_0 hl471_0
             replace p471 := eq_true p471
             replace q471 := eq_true q471
             have hcz45_0 : wr.cell? ⟨gb467, 0, none⟩ = some (.int .i64 a1_0) := (blk_cell BK467.out 0).trans rfl
             have hcz45_1 : wr.cell? ⟨gb467, 1, none⟩ = some (.int .i64 a1_1) := (blk_cell BK467.out 1).trans rfl
             have hcz45_2 : wr.cell? ⟨gb467, 2, none⟩ = some (.slice A1_2 l1_2.length c1_2) := (blk_cell BK467.out 2).trans rfl
             have hcz45_3 : wr.cell? ⟨gb467, 3, none⟩ = some (.slice A1_3 l1_3.length c1_3) := (blk_cell BK467.out 3).trans rfl
             have hfz45_0 := blk_frozen BK467.out 0
             have hfz45_1 := blk_frozen BK467.out 1
             have hfz45_2 := blk_frozen BK467.out 2
             have hfz45_3 := blk_frozen BK467.out 3
             have p472 : 0 ≤ (x6_3 : Int) := of_decide_eq_true (by first | (with_reducible assumption) | assumption)
             have q472 : x6_3 < (l1_3.length : Int) := of_decide_eq_true (by first | (with_reducible assumption) | assumption)
             obtain ⟨ad472, A472_0, c472_0, e472, hx472_0, hl472_0, hi472_0⟩ := at_L1 HR1_3.out x6_3 p472 q472
             cases e472
             replace hx472_0 := (HB.out.cell (World.block_lt_of_cell? w _ hx472_0)).trans hx472_0
             have HR472_0 := asd hi472_0
             have HC472_0 := asd hl472_0
             clear hi472_0 hl472_0
             replace p472 := eq_true p472
             replace q472 := eq_true q472
             go_wp2_with (first | (go_at_call 44; (with_reducible refine (laws_sameFlags.calls k3 _ _ (rd_L1 l0_3 x6_3) _ _ (rd_L1 l1_3 x6_3) false _ ?side1 ?side2 ?side3 ?side4 A38.out).mono ?_); (case side1 => repeat (first | exact (Kd.C_below HR471_0.out HB.out) | (with_reducible refine Kd.C_alloc ?_ _) | (with_reducible refine Kd.C_drewN ?_ _) | (with_reducible refine Kd.C_drew ?_))); (case side2 => exact HC471_0.out); (case side3 => repeat (first | exact (Kd.C_below HR472_0.out HB.out) | (with_reducible refine Kd.C_alloc ?_ _) | (with_reducible refine Kd.C_drewN ?_ _) | (with_reducible refine Kd.C_drew ?_))); (case side4 => exact HC472_0.out); rintro e w' ⟨rfl, ⟨nd, rfl⟩⟩; (try first | exact ⟨rfl, _, World.drewN_drewN _ _ _⟩ | exact ⟨rfl, _, Eq.trans (World.drewN_drewN _ _ _) (congrArg (World.drewN _) (Nat.add_assoc _ _ _))⟩)))
             repeat (go_quiet (first | (go_at_call 44; (with_reducible refine (laws_sameFlags.calls k3 _ _ (rd_L1 l0_3 x6_3) _ _ (rd_L1 l1_3 x6_3) false _ ?side1 ?side2 ?side3 ?side4 A38.out).mono ?_); (case side1 => repeat (first | exact (Kd.C_below HR471_0.out HB.out) | (with_reducible refine Kd.C_alloc ?_ _) | (with_reducible refine Kd.C_drewN ?_ _) | (with_reducible refine Kd.C_drew ?_))); (case side2 => exact HC471_0.out); (case side3 => repeat (first | exact (Kd.C_below HR472_0.out HB.out) | (with_reducible refine Kd.C_alloc ?_ _) | (with_reducible refine Kd.C_drewN ?_ _) | (with_reducible refine Kd.C_drew ?_))); (case side4 => exact HC472_0.out); rintro e w' ⟨rfl, ⟨nd, rfl⟩⟩; (try first | exact ⟨rfl, _, World.drewN_drewN _ _ _⟩ | exact ⟨rfl, _, Eq.trans (World.drewN_drewN _ _ _) (congrArg (World.drewN _) (Nat.add_assoc _ _ _))⟩))); try go_wp2_with (first | (go_at_call 44; (with_reducible refine (laws_sameFlags.calls k3 _ _ (rd_L1 l0_3 x6_3) _ _ (rd_L1 l1_3 x6_3) false _ ?side1 ?side2 ?side3 ?side4 A38.out).mono ?_); (case side1 => repeat (first | exact (Kd.C_below HR471_0.out HB.out) | (with_reducible refine Kd.C_alloc ?_ _) | (with_reducible refine Kd.C_drewN ?_ _) | (with_reducible refine Kd.C_drew ?_))); (case side2 => exact HC471_0.out); (case side3 => repeat (first | exact (Kd.C_below HR472_0.out HB.out) | (with_reducible refine Kd.C_alloc ?_ _) | (with_reducible refine Kd.C_drewN ?_ _) | (with_reducible refine Kd.C_drew ?_))); (case side4 => exact HC472_0.out); rintro e w' ⟨rfl, ⟨nd, rfl⟩⟩; (try first | exact ⟨rfl, _, World.drewN_drewN _ _ _⟩ | exact ⟨rfl, _, Eq.trans (World.drewN_drewN _ _ _) (congrArg (World.drewN _) (Nat.add_assoc _ _ _))⟩))))
             go_ret
             exact ⟨by first | rfl | (simp [errW_none, errW_some] <;> rfl) | (simp [*, errW_none, errW_some] <;> rfl), by repeat (first | (with_reducible first | exact HB.out | apply below_alloc | apply pw_below_drewN | apply below_drew1 | refine below_set ?_ GE466.out | refine below_set ?_ GE467.out) | exact HB.out)⟩
           ·rw [if_neg c37] at H
            exact absurd H (by simp)
          ·rw [if_neg c36] at H
           exact absurd H (by simp)
         ·rw [if_neg c35] at H
          have c35b0 : decide (x6_3 < (l0_3.length : Int)) = false := decide_eq_false c35
          clear c35
          obtain rfl := Option.some.inj H
          have hnb46 := NB466_467.out
          have hnc46 := NB467_466.out
          have hcz47_0 : wr.cell? ⟨gb466, 0, none⟩ = some (.int .i64 a0_0) := (blk_cell BK466.out 0).trans rfl
          have hcz47_1 : wr.cell? ⟨gb466, 1, none⟩ = some (.int .i64 a0_1) := (blk_cell BK466.out 1).trans rfl
          have hcz47_2 : wr.cell? ⟨gb466, 2, none⟩ = some (.slice A0_2 l0_2.length c0_2) := (blk_cell BK466.out 2).trans rfl
          have hcz47_3 : wr.cell? ⟨gb466, 3, none⟩ = some (.slice A0_3 l0_3.length c0_3) := (blk_cell BK466.out 3).trans rfl
          have hfz47_0 := blk_frozen BK466.out 0
          have hfz47_1 := blk_frozen BK466.out 1
          have hfz47_2 := blk_frozen BK466.out 2
          have hfz47_3 := blk_frozen BK466.out 3
          go_wp2
          repeat (go_quiet (fail); try go_wp2)
          go_ret
          exact ⟨by first | rfl | (simp [errW_none, errW_some] <;> rfl) | (simp [*, errW_none, errW_some] <;> rfl), by repeat (first | (with_reducible first | exact HB.out | apply below_alloc | apply pw_below_drewN | apply below_drew1 | refine below_set ?_ GE466.out | refine below_set ?_ GE467.out) | exact HB.out)⟩

end Go.Proofs.Ytdinbpfklikghaa.PLoops
