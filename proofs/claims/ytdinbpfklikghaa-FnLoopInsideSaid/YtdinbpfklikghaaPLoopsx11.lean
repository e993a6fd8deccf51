/- Functions of the program, and what a call comes to. No conditions. -/
import Derived.Test.YtdinbpfklikghaaPLoopsx0
namespace Go.Proofs.Ytdinbpfklikghaa.PLoops
open Go.RowKit Go.Proofs.YtdinbpfklikghaaW.PrintWords Go.Proofs.YtdinbpfklikghaaW.PrintLast Go.Proofs.YtdinbpfklikghaaW.PrintMore
set_option linter.unusedVariables false
set_option linter.unusedSimpArgs false

/-! ### impl_edgesOf: function 72 -/
mutual
def impl_edgesOf.l0 : Nat → List (S82) → Int → List (List Bool) → Int → Int → Int → Int → List (List Bool) → List (List Bool) → Option ((List (S82)))
 | 0, _, _, _, _, _, _, _, _, _ => none
 | k + 1, x3, x4, x18, x19, x20, x141000, x141001, x141002, x141003 => if x20 < x19 then (if 0 ≤ x20 then (if x20 < (x18.length : Int) then (impl_edgesOf.l1 k x3 x4 x20 x18 x19 x20 (rd_L1 x18 x20) ((rd_L1 x18 x20).length : Int) 0 x141000 x141001 x141002 x141003) else (none)) else (none)) else (impl_edgesOf.l2 k x3 x4 x141003 (x141003.length : Int) 0)
def impl_edgesOf.l1 : Nat → List (S82) → Int → Int → List (List Bool) → Int → Int → List Bool → Int → Int → Int → Int → List (List Bool) → List (List Bool) → Option ((List (S82)))
 | 0, _, _, _, _, _, _, _, _, _, _, _, _, _ => none
 | k + 1, x3, x4, x5, x18, x19, x20, x25, x26, x27, x141000, x141001, x141002, x141003 => if x27 < x26 then (if 0 ≤ x27 then (if x27 < (x25.length : Int) then (if rdOf false x25 x27 = true then (if x3.length < 8796093022208 then (impl_edgesOf.l1 k (x3 ++ [(⟨wrap64 ((wrap64 (x5 * x4)) + x27), wrap64 ((wrap64 ((wrap64 (x5 * x4)) + x27)) + 1)⟩ : S82)]) x4 x5 x18 x19 x20 x25 x26 (wrap64 (x27 + 1)) x141000 x141001 x141002 x141003) else (none)) else (impl_edgesOf.l1 k x3 x4 x5 x18 x19 x20 x25 x26 (wrap64 (x27 + 1)) x141000 x141001 x141002 x141003)) else (none)) else (none)) else (impl_edgesOf.l0 k x3 x4 x18 x19 (wrap64 (x20 + 1)) x141000 x141001 x141002 x141003)
def impl_edgesOf.l2 : Nat → List (S82) → Int → List (List Bool) → Int → Int → Option ((List (S82)))
 | 0, _, _, _, _, _ => none
 | k + 1, x3, x4, x51, x52, x53 => if x53 < x52 then (if 0 ≤ x53 then (if x53 < (x51.length : Int) then (impl_edgesOf.l3 k x3 x4 x53 x51 x52 x53 (rd_L1 x51 x53) ((rd_L1 x51 x53).length : Int) 0) else (none)) else (none)) else (some x3)
def impl_edgesOf.l3 : Nat → List (S82) → Int → Int → List (List Bool) → Int → Int → List Bool → Int → Int → Option ((List (S82)))
 | 0, _, _, _, _, _, _, _, _, _ => none
 | k + 1, x3, x4, x9, x51, x52, x53, x58, x59, x60 => if x60 < x59 then (if 0 ≤ x60 then (if x60 < (x58.length : Int) then (if rdOf false x58 x60 = true then (if x3.length < 8796093022208 then (impl_edgesOf.l3 k (x3 ++ [(⟨wrap64 ((wrap64 (x60 * x4)) + x9), wrap64 ((wrap64 ((wrap64 (x60 + 1)) * x4)) + x9)⟩ : S82)]) x4 x9 x51 x52 x53 x58 x59 (wrap64 (x60 + 1))) else (none)) else (impl_edgesOf.l3 k x3 x4 x9 x51 x52 x53 x58 x59 (wrap64 (x60 + 1)))) else (none)) else (none)) else (impl_edgesOf.l2 k x3 x4 x51 x52 (wrap64 (x53 + 1)))
end
def impl_edgesOf.f (k : Nat) (a0_0 : Int) (a0_1 : Int) (l0_2 : List (List Bool)) (l0_3 : List (List Bool)) : Option ((List (S82))) := impl_edgesOf.l0 k (([] : List (S82))) (wrap64 (a0_1 + 1)) l0_2 (l0_2.length : Int) 0 a0_0 a0_1 l0_2 l0_3
theorem impl_edgesOf.mono_l : ∀ k, (∀ y0 y1 y2 y3 y4 y5 y6 y7 y8, LeO (impl_edgesOf.l0 k y0 y1 y2 y3 y4 y5 y6 y7 y8) (impl_edgesOf.l0 (k + 1) y0 y1 y2 y3 y4 y5 y6 y7 y8)) ∧ (∀ y0 y1 y2 y3 y4 y5 y6 y7 y8 y9 y10 y11 y12, LeO (impl_edgesOf.l1 k y0 y1 y2 y3 y4 y5 y6 y7 y8 y9 y10 y11 y12) (impl_edgesOf.l1 (k + 1) y0 y1 y2 y3 y4 y5 y6 y7 y8 y9 y10 y11 y12)) ∧ (∀ y0 y1 y2 y3 y4, LeO (impl_edgesOf.l2 k y0 y1 y2 y3 y4) (impl_edgesOf.l2 (k + 1) y0 y1 y2 y3 y4)) ∧ (∀ y0 y1 y2 y3 y4 y5 y6 y7 y8, LeO (impl_edgesOf.l3 k y0 y1 y2 y3 y4 y5 y6 y7 y8) (impl_edgesOf.l3 (k + 1) y0 y1 y2 y3 y4 y5 y6 y7 y8))
 | 0 => ⟨fun _ _ _ _ _ _ _ _ _ r h => by simp [impl_edgesOf.l0] at h, fun _ _ _ _ _ _ _ _ _ _ _ _ _ r h => by simp [impl_edgesOf.l1] at h, fun _ _ _ _ _ r h => by simp [impl_edgesOf.l2] at h, fun _ _ _ _ _ _ _ _ _ r h => by simp [impl_edgesOf.l3] at h⟩
 | k + 1 => by
  obtain ⟨ih0, ih1, ih2, ih3⟩ := impl_edgesOf.mono_l k
  refine ⟨?_, ?_, ?_, ?_⟩
  ·intro y0 y1 y2 y3 y4 y5 y6 y7 y8
   unfold impl_edgesOf.l0
   repeat' first | (with_reducible first | exact ih0 _ _ _ _ _ _ _ _ _ | exact ih1 _ _ _ _ _ _ _ _ _ _ _ _ _ | exact ih2 _ _ _ _ _ | exact ih3 _ _ _ _ _ _ _ _ _ | exact LeO.refl _ | exact LeO.none _ | refine LeO.ite ?_ ?_ | refine LeO.bind ?_ (fun _ => ?_)) | exact LeO.none _ | refine LeO.ite ?_ ?_ | refine LeO.bind ?_ (fun _ => ?_)
  ·intro y0 y1 y2 y3 y4 y5 y6 y7 y8 y9 y10 y11 y12
   unfold impl_edgesOf.l1
   repeat' first | (with_reducible first | exact ih0 _ _ _ _ _ _ _ _ _ | exact ih1 _ _ _ _ _ _ _ _ _ _ _ _ _ | exact ih2 _ _ _ _ _ | exact ih3 _ _ _ _ _ _ _ _ _ | exact LeO.refl _ | exact LeO.none _ | refine LeO.ite ?_ ?_ | refine LeO.bind ?_ (fun _ => ?_)) | exact LeO.none _ | refine LeO.ite ?_ ?_ | refine LeO.bind ?_ (fun _ => ?_)
  ·intro y0 y1 y2 y3 y4
   unfold impl_edgesOf.l2
   repeat' first | (with_reducible first | exact ih0 _ _ _ _ _ _ _ _ _ | exact ih1 _ _ _ _ _ _ _ _ _ _ _ _ _ | exact ih2 _ _ _ _ _ | exact ih3 _ _ _ _ _ _ _ _ _ | exact LeO.refl _ | exact LeO.none _ | refine LeO.ite ?_ ?_ | refine LeO.bind ?_ (fun _ => ?_)) | exact LeO.none _ | refine LeO.ite ?_ ?_ | refine LeO.bind ?_ (fun _ => ?_)
  ·intro y0 y1 y2 y3 y4 y5 y6 y7 y8
   unfold impl_edgesOf.l3
   repeat' first | (with_reducible first | exact ih0 _ _ _ _ _ _ _ _ _ | exact ih1 _ _ _ _ _ _ _ _ _ _ _ _ _ | exact ih2 _ _ _ _ _ | exact ih3 _ _ _ _ _ _ _ _ _ | exact LeO.refl _ | exact LeO.none _ | refine LeO.ite ?_ ?_ | refine LeO.bind ?_ (fun _ => ?_)) | exact LeO.none _ | refine LeO.ite ?_ ?_ | refine LeO.bind ?_ (fun _ => ?_)
theorem impl_edgesOf.mono : ∀ a0 a1 a2 a3 k, LeO (impl_edgesOf.f k a0 a1 a2 a3) (impl_edgesOf.f (k + 1) a0 a1 a2 a3) := by
 intro a0 a1 a2 a3 k
 obtain ⟨ih0, ih1, ih2, ih3⟩ := impl_edgesOf.mono_l k
 unfold impl_edgesOf.f
 repeat' first | (with_reducible first | exact ih0 _ _ _ _ _ _ _ _ _ | exact ih1 _ _ _ _ _ _ _ _ _ _ _ _ _ | exact ih2 _ _ _ _ _ | exact ih3 _ _ _ _ _ _ _ _ _ | exact LeO.refl _ | exact LeO.none _ | refine LeO.ite ?_ ?_ | refine LeO.bind ?_ (fun _ => ?_)) | exact LeO.none _ | refine LeO.ite ?_ ?_ | refine LeO.bind ?_ (fun _ => ?_)
set_option maxHeartbeats 8000000 in
set_option maxRecDepth 100000 in
theorem impl_edgesOf.calls (k : Nat) (a0_0 : Int) (a0_1 : Int) (A0_2 : Option Addr) (c0_2 : Nat) (l0_2 : List (List Bool)) (A0_3 : Option Addr) (c0_3 : Nat) (l0_3 : List (List Bool)) (r : List (S82)) (w : World) (hr0_2 : Kd.C (Kd.slice 4 Kd.bool) w A0_2 l0_2.length l0_2) (hc0_2 : l0_2.length ≤ c0_2) (hr0_3 : Kd.C (Kd.slice 4 Kd.bool) w A0_3 l0_3.length l0_3) (hc0_3 : l0_3.length ≤ c0_3) (h : impl_edgesOf.f k a0_0 a0_1 l0_2 l0_3 = some r) :
  Calls Try.prog 72 #[.agg #[.int .i64 a0_0, .int .i64 a0_1, .slice A0_2 l0_2.length c0_2, .slice A0_3 l0_3.length c0_3]] w fun e w' => ∃ v0_ : Value, e = .returned (v0_) ∧ Kd.R k82 82 w' w.heap.size (fun _ => True) v0_ r ∧ Below w.heap.size w w' := by
 have hu27 := Try.underlying27
 have hu82 := Try.underlying82
 have HR0_2 := asd hr0_2
 have HC0_2 := asd hc0_2
 clear hr0_2 hc0_2
 have HR0_3 := asd hr0_3
 have HC0_3 := asd hc0_3
 clear hr0_3 hc0_3
 have HB := asd (Below.refl w.heap.size w)
 have H : (impl_edgesOf.l0 k (([] : List (S82))) (wrap64 (a0_1 + 1)) l0_2 (l0_2.length : Int) 0 a0_0 a0_1 l0_2 l0_3) = some r := h
 clear h
 obtain ⟨y141, hy141⟩ : ∃ y_ : List (S82), y_ = (([] : List (S82))) := ⟨_, rfl⟩
 replace H : (impl_edgesOf.l0 k y141 (wrap64 (a0_1 + 1)) l0_2 (l0_2.length : Int) 0 a0_0 a0_1 l0_2 l0_3) = some r := by first | (rw [hy141]; with_reducible exact H) | (have H2_ := (Option.bind_some _ _).symm.trans H; rw [hy141]; with_reducible exact H2_) | (have H2_ := (Option.bind_some _ _).symm.trans H; with_reducible exact H2_) | with_reducible exact H | (rw [hy141]; exact H) | exact H
 have Ny141 := asd hy141
 clear hy141
 have H' := asd H
 clear H
 go_enter Try.func72, Try.ntmps72
 go_wp2_with (first | ((with_reducible refine gate_dst (N := 1) rfl ?_); refine box_event ?hg (N := 1) ?hd (cs := #[.int .i64 a0_0, .int .i64 a0_1, .slice A0_2 l0_2.length c0_2, .slice A0_3 l0_3.length c0_3]) (t := 27) ?hr ?_; (case hd => rfl); (case hg => rfl); (case hr => first | (go_simp; done) | (go_simp; rfl)); intro gb140 hg w2 hbox hb; have n0_ := asd (below_step (by repeat (first | (with_reducible first | exact HB.out | apply below_alloc | apply pw_below_drewN | apply below_drew1) | exact HB.out)) hb); have n1_ := asd (hbox); have n2_ := asd ((by rw [hg]; exact (below_size (by repeat (first | (with_reducible first | exact HB.out | apply below_alloc | apply pw_below_drewN | apply below_drew1) | exact HB.out))) : w.heap.size ≤ gb140)); have n3_ := asd ((by rw [hg]; exact (below_size (by repeat (first | (with_reducible first | exact HB.out | apply below_alloc | apply pw_below_drewN | apply below_drew1) | exact HB.out))) : w.heap.size ≤ gb140)); clear HB; have HB := n0_; have BK140 := n1_; have GW140 := n2_; have GE140 := n3_; clear n0_ n1_ n2_ n3_; clear hb hbox hg) | ((with_reducible refine gate_dst (N := 13) rfl ?_); refine Kd.R_lit k82 _ 82 ?hg (N := 13) ?hd (xs := ([] : List (S82))) (inner := []) (ok := fun _ => True) (okp := fun _ => True) ?hr ?hp (fun _ hk => hk) trivial (Below.refl _ _) (Nat.le_refl _) (by simp) ?_; (case hd => rfl); (case hg => rfl); (case hr => first | (go_simp; done) | (go_simp; rfl)); (case hp => exact (Reps.none _ _)); intro v142 w3 ho4 hb hg_ hnew_; clear hg_ hnew_; (first | rw [← Ny141.out] at ho4 | (simp only [Int.reduceToNat] at ho4; rw [← Ny141.out] at ho4)); have n0_ := asd (Kd.R_lower ho4 (below_size (by repeat (first | (with_reducible first | exact HB.out | apply below_alloc | apply pw_below_drewN | apply below_drew1 | refine below_set ?_ GE140.out) | exact HB.out)))); have n1_ := asd (blk_below (g := gb140) (o := .cells #[.int .i64 a0_0, .int .i64 a0_1, .slice A0_2 l0_2.length c0_2, .slice A0_3 l0_3.length c0_3] 27 (0, 0)) (by (with_reducible repeat (first | refine blk_drewN ?_ _ | refine blk_drew ?_ | refine blk_alloc ?_ _)); exact BK140.out) hb); have n2_ := asd (below_step (by repeat (first | (with_reducible first | exact HB.out | apply below_alloc | apply pw_below_drewN | apply below_drew1 | refine below_set ?_ GE140.out) | exact HB.out)) hb); clear BK140 HB; have HO143 := n0_; have BK140 := n1_; have HB := n2_; clear n0_ n1_ n2_ hb ho4; have hcz5_0 : w3.cell? ⟨gb140, 0, none⟩ = some (.int .i64 a0_0) := (blk_cell BK140.out 0).trans rfl; have hcz5_1 : w3.cell? ⟨gb140, 1, none⟩ = some (.int .i64 a0_1) := (blk_cell BK140.out 1).trans rfl; have hcz5_2 : w3.cell? ⟨gb140, 2, none⟩ = some (.slice A0_2 l0_2.length c0_2) := (blk_cell BK140.out 2).trans rfl; have hcz5_3 : w3.cell? ⟨gb140, 3, none⟩ = some (.slice A0_3 l0_3.length c0_3) := (blk_cell BK140.out 3).trans rfl; have hfz5_0 := blk_frozen BK140.out 0; have hfz5_1 := blk_frozen BK140.out 1; have hfz5_2 := blk_frozen BK140.out 2; have hfz5_3 := blk_frozen BK140.out 3))
 go_loopg [3, 20] k (fun kq v3 v20 w' => ∃ (x3_1 : List (S82)) (x20_1 : Int), v20 = .int .i64 x20_1 ∧ Aside0 (impl_edgesOf.l0 kq x3_1 (wrap64 (a0_1 + 1)) l0_2 (l0_2.length : Int) x20_1 a0_0 a0_1 l0_2 l0_3 = some r) ∧ Aside0 (kq ≤ k) ∧ Aside0 (Kd.R k82 82 w' w.heap.size (fun _ => True) v3 x3_1) ∧ Aside0 (w'.heap[gb140]? = some (.cells #[.int .i64 a0_0, .int .i64 a0_1, (.slice A0_2 l0_2.length c0_2), (.slice A0_3 l0_3.length c0_3)] 27 (0, 0))) ∧ Aside0 (Below w.heap.size w w'))
 case atStart => exact ⟨(y141), (0), (by first | rfl | (simp; done) | (simp [*]; done)), H', ⟨Nat.le_refl _⟩, ⟨by (with_reducible repeat (first | apply Kd.R_alloc | apply Kd.R_drewN | apply Kd.R_drew)); exact HO143.out⟩, ⟨by (with_reducible repeat (first | refine blk_drewN ?_ _ | refine blk_drew ?_ | refine blk_alloc ?_ _)); exact BK140.out⟩, ⟨by repeat (first | (with_reducible first | exact HB.out | apply below_alloc | apply pw_below_drewN | apply below_drew1 | refine below_set ?_ GE140.out) | exact HB.out)⟩⟩
 case round =>
  clear H'; try clear p2; try clear hcz5_0; try clear hcz5_1; try clear hcz5_2; try clear hcz5_3; try clear hfz5_0; try clear hfz5_1; try clear hfz5_2; try clear hfz5_3
  obtain ⟨x3_1, x20_1, rfl, HA, HK1, HO_3, BK140, HB⟩ := hrel
  cases gk with
  | zero => exact absurd HA.out (by simp [impl_edgesOf.l0])
  | succ k1 =>
   have H := HA.out
   clear HA
   simp only [impl_edgesOf.l0] at H
   by_cases c6 : x20_1 < (l0_2.length : Int)
   ·rw [if_pos c6] at H
    have c6b0 : decide (x20_1 < (l0_2.length : Int)) = true := decide_eq_true c6
    clear c6
    by_cases c7 : 0 ≤ x20_1
    ·rw [if_pos c7] at H
     have c7b0 : decide (0 ≤ x20_1) = true := decide_eq_true c7
     clear c7
     by_cases c8 : x20_1 < (l0_2.length : Int)
     ·rw [if_pos c8] at H
      have c8b0 : decide (x20_1 < (l0_2.length : Int)) = true := decide_eq_true c8
      clear c8
      have H' := asd H
      clear H
      have p144 : 0 ≤ (x20_1 : Int) := of_decide_eq_true (by first | (with_reducible assumption) | assumption)
      have q144 : x20_1 < (l0_2.length : Int) := of_decide_eq_true (by first | (with_reducible assumption) | assumption)
      obtain ⟨ad144, A144_0, c144_0, e144, hx144_0, hl144_0, hi144_0⟩ := at_L1 HR0_2.out x20_1 p144 q144
      cases e144
      replace hx144_0 := (HB.out.cell (World.block_lt_of_cell? w _ hx144_0)).trans hx144_0
      have HR144_0 := asd hi144_0
      have HC144_0 := asd hl144_0
      clear hi144_0 hl144_0
      replace p144 := eq_true p144
      replace q144 := eq_true q144
      go_wp2
      go_loopg [3, 27] k1 (fun kq v3 v27 w' => ∃ (x3_2 : List (S82)) (x27_2 : Int), v27 = .int .i64 x27_2 ∧ Aside0 (impl_edgesOf.l1 kq x3_2 (wrap64 (a0_1 + 1)) x20_1 l0_2 (l0_2.length : Int) x20_1 (rd_L1 l0_2 x20_1) ((rd_L1 l0_2 x20_1).length : Int) x27_2 a0_0 a0_1 l0_2 l0_3 = some r) ∧ Aside0 (kq ≤ k1) ∧ Aside0 (Kd.R k82 82 w' w.heap.size (fun _ => True) v3 x3_2) ∧ Aside0 (w'.heap[gb140]? = some (.cells #[.int .i64 a0_0, .int .i64 a0_1, (.slice (some ad144) l0_2.length c0_2), (.slice A0_3 l0_3.length c0_3)] 27 (0, 0))) ∧ Aside0 (Below w.heap.size w w'))
      case atStart => exact ⟨(x3_1), (0), (by first | rfl | (simp; done) | (simp [*]; done)), H', ⟨Nat.le_refl _⟩, ⟨by (with_reducible repeat (first | apply Kd.R_alloc | apply Kd.R_drewN | apply Kd.R_drew)); exact HO_3.out⟩, ⟨by (with_reducible repeat (first | refine blk_drewN ?_ _ | refine blk_drew ?_ | refine blk_alloc ?_ _)); exact BK140.out⟩, ⟨by repeat (first | (with_reducible first | exact HB.out | apply below_alloc | apply pw_below_drewN | apply below_drew1 | refine below_set ?_ GE140.out) | exact HB.out)⟩⟩
      case round =>
       clear H'; try clear c1; try clear p1; try clear q1; try clear hx1; try clear c6b0; try clear p6; try clear c7b0; try clear c8b0; try clear hx144_0; try clear p144; try clear q144
       obtain ⟨x3_2, x27_2, rfl, HA, HK2, HO_3, BK140, HB⟩ := hrel
       cases gk with
       | zero => exact absurd HA.out (by simp [impl_edgesOf.l1])
       | succ k2 =>
        have H := HA.out
        clear HA
        simp only [impl_edgesOf.l1] at H
        by_cases c9 : x27_2 < ((rd_L1 l0_2 x20_1).length : Int)
        ·rw [if_pos c9] at H
         have c9b0 : decide (x27_2 < ((rd_L1 l0_2 x20_1).length : Int)) = true := decide_eq_true c9
         clear c9
         by_cases c10 : 0 ≤ x27_2
         ·rw [if_pos c10] at H
          have c10b0 : decide (0 ≤ x27_2) = true := decide_eq_true c10
          clear c10
          by_cases c11 : x27_2 < ((rd_L1 l0_2 x20_1).length : Int)
          ·rw [if_pos c11] at H
           have c11b0 : decide (x27_2 < ((rd_L1 l0_2 x20_1).length : Int)) = true := decide_eq_true c11
           clear c11
           obtain ⟨bq12, hbq12⟩ : ∃ b_ : Bool, b_ = (rdOf false (rd_L1 l0_2 x20_1) x27_2) := ⟨_, rfl⟩
           replace H : (if bq12 = true then (if x3_2.length < 8796093022208 then (impl_edgesOf.l1 k2 (x3_2 ++ [(⟨wrap64 ((wrap64 (x20_1 * (wrap64 (a0_1 + 1)))) + x27_2), wrap64 ((wrap64 ((wrap64 (x20_1 * (wrap64 (a0_1 + 1)))) + x27_2)) + 1)⟩ : S82)]) (wrap64 (a0_1 + 1)) x20_1 l0_2 (l0_2.length : Int) x20_1 (rd_L1 l0_2 x20_1) ((rd_L1 l0_2 x20_1).length : Int) (wrap64 (x27_2 + 1)) a0_0 a0_1 l0_2 l0_3) else (none)) else (impl_edgesOf.l1 k2 x3_2 (wrap64 (a0_1 + 1)) x20_1 l0_2 (l0_2.length : Int) x20_1 (rd_L1 l0_2 x20_1) ((rd_L1 l0_2 x20_1).length : Int) (wrap64 (x27_2 + 1)) a0_0 a0_1 l0_2 l0_3)) = some r := by rw [← hbq12] at H; exact H
           have Nbq12 := asd hbq12
           clear hbq12
           by_cases c13 : bq12 = true
           ·subst c13
            have H1 : (if x3_2.length < 8796093022208 then (impl_edgesOf.l1 k2 (x3_2 ++ [(⟨wrap64 ((wrap64 (x20_1 * (wrap64 (a0_1 + 1)))) + x27_2), wrap64 ((wrap64 ((wrap64 (x20_1 * (wrap64 (a0_1 + 1)))) + x27_2)) + 1)⟩ : S82)]) (wrap64 (a0_1 + 1)) x20_1 l0_2 (l0_2.length : Int) x20_1 (rd_L1 l0_2 x20_1) ((rd_L1 l0_2 x20_1).length : Int) (wrap64 (x27_2 + 1)) a0_0 a0_1 l0_2 l0_3) else (none)) = some r := by rw [if_pos rfl] at H; exact H
            clear H
            have H := H1
            clear H1
            by_cases c14 : x3_2.length < 8796093022208
            ·rw [if_pos c14] at H
             have LMc14 := asd c14
             clear c14
             obtain ⟨y146, hy146⟩ : ∃ y_ : List (S82), y_ = (x3_2 ++ [(⟨wrap64 ((wrap64 (x20_1 * (wrap64 (a0_1 + 1)))) + x27_2), wrap64 ((wrap64 ((wrap64 (x20_1 * (wrap64 (a0_1 + 1)))) + x27_2)) + 1)⟩ : S82)]) := ⟨_, rfl⟩
             replace H : (impl_edgesOf.l1 k2 y146 (wrap64 (a0_1 + 1)) x20_1 l0_2 (l0_2.length : Int) x20_1 (rd_L1 l0_2 x20_1) ((rd_L1 l0_2 x20_1).length : Int) (wrap64 (x27_2 + 1)) a0_0 a0_1 l0_2 l0_3) = some r := by first | (rw [hy146]; with_reducible exact H) | (have H2_ := (Option.bind_some _ _).symm.trans H; rw [hy146]; with_reducible exact H2_) | (have H2_ := (Option.bind_some _ _).symm.trans H; with_reducible exact H2_) | with_reducible exact H | (rw [hy146]; exact H) | exact H
             have Ny146 := asd hy146
             clear hy146
             have H' := asd H
             clear H
             have p145 : 0 ≤ (x27_2 : Int) := of_decide_eq_true (by first | (with_reducible assumption) | assumption)
             have q145 : x27_2 < ((rd_L1 l0_2 x20_1).length : Int) := of_decide_eq_true (by first | (with_reducible assumption) | assumption)
             obtain ⟨ad145, e145, hx145_0⟩ := Kd.at_bool HR144_0.out x27_2 p145 q145
             (try rw [← Nbq12.out] at hx145_0)
             cases e145
             replace hx145_0 := (HB.out.cell (World.block_lt_of_cell? w _ hx145_0)).trans hx145_0
             replace p145 := eq_true p145
             replace q145 := eq_true q145
             go_wp2_with (first | ((with_reducible refine gate_builtin (b := .append) (xs := #[.tmp 33, .tmp 46]) rfl ?_); at_builtin; refine Kd.R_append k82 (w0 := w) w.heap.size rfl (.tmp 33) (.tmp 46) 71 82 (.agg #[(.int .i64 0), (.int .i64 0)]) 16 rfl Try.underlying71 info82 rfl (by decide) (by omega) u3 x3_2 (⟨wrap64 ((wrap64 (x20_1 * (wrap64 (a0_1 + 1)))) + x27_2), wrap64 ((wrap64 ((wrap64 (x20_1 * (wrap64 (a0_1 + 1)))) + x27_2)) + 1)⟩ : S82) [.int .i64 (wrap64 ((wrap64 (x20_1 * (wrap64 (a0_1 + 1)))) + x27_2)), .int .i64 (wrap64 ((wrap64 ((wrap64 (x20_1 * (wrap64 (a0_1 + 1)))) + x27_2)) + 1))] (fun _ => True) (fun _ => False) rfl rfl ?aP (fun _ hk => hk.elim) ?aF ?aO ?aB ?aS ?aL ?_; (case aP => exact k82_mkM _ _ _ (⟨wrap64 ((wrap64 (x20_1 * (wrap64 (a0_1 + 1)))) + x27_2), wrap64 ((wrap64 ((wrap64 (x20_1 * (wrap64 (a0_1 + 1)))) + x27_2)) + 1)⟩ : S82)); (case aB => exact (by repeat (first | (with_reducible first | exact HB.out | apply below_alloc | apply pw_below_drewN | apply below_drew1 | refine below_set ?_ GE140.out) | exact HB.out))); (case aF => exact (fun _ _ => trivial)); (case aO => exact (by (with_reducible repeat (first | apply Kd.R_alloc | apply Kd.R_drewN | apply Kd.R_drew)); exact HO_3.out)); (case aS => exact (below_size (by repeat (first | (with_reducible first | exact HB.out | apply below_alloc | apply pw_below_drewN | apply below_drew1 | refine below_set ?_ GE140.out) | exact HB.out)))); (case aL => have := LMc14.out; omega); intro v147 w15 ho hb hg hat; rw [← Ny146.out] at ho; have n0_ := asd (blk_grown (g := gb140) (o := .cells #[.int .i64 a0_0, .int .i64 a0_1, .slice (some ad144) l0_2.length c0_2, .slice A0_3 l0_3.length c0_3] 27 (0, 0)) (by (with_reducible repeat (first | refine blk_drewN ?_ _ | refine blk_drew ?_ | refine blk_alloc ?_ _)); exact BK140.out) hg (Kd.R_ne HO_3.out BK140.out (by decide))); have n1_ := asd (hb); have n2_ := asd (ho); clear BK140 HB HO_3; have BK140 := n0_; have HB := n1_; have HO148 := n2_; clear n0_ n1_ n2_; clear ho hb hg hat))
             go_roundg k2
             case measure => have := HK1.out; have := HK2.out; omega
             case rel => exact ⟨(y146), (wrap64 (x27_2 + 1)), (by first | rfl | (simp; done) | (simp [*]; done)), H', ⟨by have := HK1.out; have := HK2.out; omega⟩, ⟨by (with_reducible repeat (first | apply Kd.R_alloc | apply Kd.R_drewN | apply Kd.R_drew)); exact HO148.out⟩, ⟨by (with_reducible repeat (first | refine blk_drewN ?_ _ | refine blk_drew ?_ | refine blk_alloc ?_ _)); exact BK140.out⟩, ⟨by repeat (first | (with_reducible first | exact HB.out | apply below_alloc | apply pw_below_drewN | apply below_drew1 | refine below_set ?_ GE140.out) | exact HB.out)⟩⟩
            ·rw [if_neg c14] at H
             exact absurd H (by simp)
           ·replace c13 := Bool.eq_false_iff.mpr c13
            subst c13
            have H1 : (impl_edgesOf.l1 k2 x3_2 (wrap64 (a0_1 + 1)) x20_1 l0_2 (l0_2.length : Int) x20_1 (rd_L1 l0_2 x20_1) ((rd_L1 l0_2 x20_1).length : Int) (wrap64 (x27_2 + 1)) a0_0 a0_1 l0_2 l0_3) = some r := by rw [if_neg (show ¬ (false = true) by decide)] at H; exact H
            clear H
            have H := H1
            clear H1
            have H' := asd H
            clear H
            have p145 : 0 ≤ (x27_2 : Int) := of_decide_eq_true (by first | (with_reducible assumption) | assumption)
            have q145 : x27_2 < ((rd_L1 l0_2 x20_1).length : Int) := of_decide_eq_true (by first | (with_reducible assumption) | assumption)
            obtain ⟨ad145, e145, hx145_0⟩ := Kd.at_bool HR144_0.out x27_2 p145 q145
            (try rw [← Nbq12.out] at hx145_0)
            cases e145
            replace hx145_0 := (HB.out.cell (World.block_lt_of_cell? w _ hx145_0)).trans hx145_0
            replace p145 := eq_true p145
            replace q145 := eq_true q145
            go_wp2
            go_roundg k2
            case measure => have := HK1.out; have := HK2.out; omega
            case rel => exact ⟨(x3_2), (wrap64 (x27_2 + 1)), (by first | rfl | (simp; done) | (simp [*]; done)), H', ⟨by have := HK1.out; have := HK2.out; omega⟩, ⟨by (with_reducible repeat (first | apply Kd.R_alloc | apply Kd.R_drewN | apply Kd.R_drew)); exact HO_3.out⟩, ⟨by (with_reducible repeat (first | refine blk_drewN ?_ _ | refine blk_drew ?_ | refine blk_alloc ?_ _)); exact BK140.out⟩, ⟨by repeat (first | (with_reducible first | exact HB.out | apply below_alloc | apply pw_below_drewN | apply below_drew1 | refine below_set ?_ GE140.out) | exact HB.out)⟩⟩
          ·rw [if_neg c11] at H
           exact absurd H (by simp)
         ·rw [if_neg c10] at H
          exact absurd H (by simp)
        ·rw [if_neg c9] at H
         have c9b0 : decide (x27_2 < ((rd_L1 l0_2 x20_1).length : Int)) = false := decide_eq_false c9
         clear c9
         have H' := asd H
         clear H
         go_wp2
         go_roundg k2
         case measure => have := HK1.out; have := HK2.out; omega
         case rel => exact ⟨(x3_2), (wrap64 (x20_1 + 1)), (by first | rfl | (simp; done) | (simp [*]; done)), H', ⟨by have := HK1.out; have := HK2.out; omega⟩, ⟨by (with_reducible repeat (first | apply Kd.R_alloc | apply Kd.R_drewN | apply Kd.R_drew)); exact HO_3.out⟩, ⟨by (with_reducible repeat (first | refine blk_drewN ?_ _ | refine blk_drew ?_ | refine blk_alloc ?_ _)); exact BK140.out⟩, ⟨by repeat (first | (with_reducible first | exact HB.out | apply below_alloc | apply pw_below_drewN | apply below_drew1 | refine below_set ?_ GE140.out) | exact HB.out)⟩⟩
     ·rw [if_neg c8] at H
      exact absurd H (by simp)
    ·rw [if_neg c7] at H
     exact absurd H (by simp)
   ·rw [if_neg c6] at H
    have c6b0 : decide (x20_1 < (l0_2.length : Int)) = false := decide_eq_false c6
    clear c6
    have H' := asd H
    clear H
    have hcz16_0 : wr.cell? ⟨gb140, 0, none⟩ = some (.int .i64 a0_0) := (blk_cell BK140.out 0).trans rfl
    have hcz16_1 : wr.cell? ⟨gb140, 1, none⟩ = some (.int .i64 a0_1) := (blk_cell BK140.out 1).trans rfl
    have hcz16_2 : wr.cell? ⟨gb140, 2, none⟩ = some (.slice A0_2 l0_2.length c0_2) := (blk_cell BK140.out 2).trans rfl
    have hcz16_3 : wr.cell? ⟨gb140, 3, none⟩ = some (.slice A0_3 l0_3.length c0_3) := (blk_cell BK140.out 3).trans rfl
    have hfz16_0 := blk_frozen BK140.out 0
    have hfz16_1 := blk_frozen BK140.out 1
    have hfz16_2 := blk_frozen BK140.out 2
    have hfz16_3 := blk_frozen BK140.out 3
    go_wp2
    go_loopg [3, 53] k1 (fun kq v3 v53 w' => ∃ (x3_2 : List (S82)) (x53_2 : Int), v53 = .int .i64 x53_2 ∧ Aside0 (impl_edgesOf.l2 kq x3_2 (wrap64 (a0_1 + 1)) l0_3 (l0_3.length : Int) x53_2 = some r) ∧ Aside0 (kq ≤ k1) ∧ Aside0 (Kd.R k82 82 w' w.heap.size (fun _ => True) v3 x3_2) ∧ Aside0 (w'.heap[gb140]? = some (.cells #[.int .i64 a0_0, .int .i64 a0_1, (.slice A0_2 l0_2.length c0_2), (.slice A0_3 l0_3.length c0_3)] 27 (0, 0))) ∧ Aside0 (Below w.heap.size w w'))
    case atStart => exact ⟨(x3_1), (0), (by first | rfl | (simp; done) | (simp [*]; done)), H', ⟨Nat.le_refl _⟩, ⟨by (with_reducible repeat (first | apply Kd.R_alloc | apply Kd.R_drewN | apply Kd.R_drew)); exact HO_3.out⟩, ⟨by (with_reducible repeat (first | refine blk_drewN ?_ _ | refine blk_drew ?_ | refine blk_alloc ?_ _)); exact BK140.out⟩, ⟨by repeat (first | (with_reducible first | exact HB.out | apply below_alloc | apply pw_below_drewN | apply below_drew1 | refine below_set ?_ GE140.out) | exact HB.out)⟩⟩
    case round =>
     clear H'; try clear c1; try clear p1; try clear q1; try clear hx1; try clear c6b0; try clear p6; try clear c7; try clear c7b0; try clear c8; try clear c8b0; try clear c9; try clear c9b0; try clear c10; try clear c10b0; try clear c11; try clear c11b0; try clear q12; try clear c13; try clear c14; try clear p14; try clear q14; try clear hx14; try clear hcz16_0; try clear hcz16_1; try clear hcz16_2; try clear hcz16_3; try clear hfz16_0; try clear hfz16_1; try clear hfz16_2; try clear hfz16_3; try clear hx144_0; try clear hx145_0; try clear p144; try clear p145; try clear q144; try clear q145
     obtain ⟨x3_2, x53_2, rfl, HA, HK2, HO_3, BK140, HB⟩ := hrel
     cases gk with
     | zero => exact absurd HA.out (by simp [impl_edgesOf.l2])
     | succ k2 =>
      have H := HA.out
      clear HA
      simp only [impl_edgesOf.l2] at H
      by_cases c17 : x53_2 < (l0_3.length : Int)
      ·rw [if_pos c17] at H
       have c17b0 : decide (x53_2 < (l0_3.length : Int)) = true := decide_eq_true c17
       clear c17
       by_cases c18 : 0 ≤ x53_2
       ·rw [if_pos c18] at H
        have c18b0 : decide (0 ≤ x53_2) = true := decide_eq_true c18
        clear c18
        by_cases c19 : x53_2 < (l0_3.length : Int)
        ·rw [if_pos c19] at H
         have c19b0 : decide (x53_2 < (l0_3.length : Int)) = true := decide_eq_true c19
         clear c19
         have H' := asd H
         clear H
         have p149 : 0 ≤ (x53_2 : Int) := of_decide_eq_true (by first | (with_reducible assumption) | assumption)
         have q149 : x53_2 < (l0_3.length : Int) := of_decide_eq_true (by first | (with_reducible assumption) | assumption)
         obtain ⟨ad149, A149_0, c149_0, e149, hx149_0, hl149_0, hi149_0⟩ := at_L1 HR0_3.out x53_2 p149 q149
         cases e149
         replace hx149_0 := (HB.out.cell (World.block_lt_of_cell? w _ hx149_0)).trans hx149_0
         have HR149_0 := asd hi149_0
         have HC149_0 := asd hl149_0
         clear hi149_0 hl149_0
         replace p149 := eq_true p149
         replace q149 := eq_true q149
         go_wp2
         go_loopg [3, 60] k2 (fun kq v3 v60 w' => ∃ (x3_3 : List (S82)) (x60_3 : Int), v60 = .int .i64 x60_3 ∧ Aside0 (impl_edgesOf.l3 kq x3_3 (wrap64 (a0_1 + 1)) x53_2 l0_3 (l0_3.length : Int) x53_2 (rd_L1 l0_3 x53_2) ((rd_L1 l0_3 x53_2).length : Int) x60_3 = some r) ∧ Aside0 (kq ≤ k2) ∧ Aside0 (Kd.R k82 82 w' w.heap.size (fun _ => True) v3 x3_3) ∧ Aside0 (w'.heap[gb140]? = some (.cells #[.int .i64 a0_0, .int .i64 a0_1, (.slice A0_2 l0_2.length c0_2), (.slice (some ad149) l0_3.length c0_3)] 27 (0, 0))) ∧ Aside0 (Below w.heap.size w w'))
         case atStart => exact ⟨(x3_2), (0), (by first | rfl | (simp; done) | (simp [*]; done)), H', ⟨Nat.le_refl _⟩, ⟨by (with_reducible repeat (first | apply Kd.R_alloc | apply Kd.R_drewN | apply Kd.R_drew)); exact HO_3.out⟩, ⟨by (with_reducible repeat (first | refine blk_drewN ?_ _ | refine blk_drew ?_ | refine blk_alloc ?_ _)); exact BK140.out⟩, ⟨by repeat (first | (with_reducible first | exact HB.out | apply below_alloc | apply pw_below_drewN | apply below_drew1 | refine below_set ?_ GE140.out) | exact HB.out)⟩⟩
         case round =>
          clear H'; try clear c17b0; try clear c18b0; try clear c19b0; try clear hx149_0; try clear p149; try clear q149
          obtain ⟨x3_3, x60_3, rfl, HA, HK3, HO_3, BK140, HB⟩ := hrel
          cases gk with
          | zero => exact absurd HA.out (by simp [impl_edgesOf.l3])
          | succ k3 =>
           have H := HA.out
           clear HA
           simp only [impl_edgesOf.l3] at H
           by_cases c20 : x60_3 < ((rd_L1 l0_3 x53_2).length : Int)
           ·rw [if_pos c20] at H
            have c20b0 : decide (x60_3 < ((rd_L1 l0_3 x53_2).length : Int)) = true := decide_eq_true c20
            clear c20
            by_cases c21 : 0 ≤ x60_3
            ·rw [if_pos c21] at H
             have c21b0 : decide (0 ≤ x60_3) = true := decide_eq_true c21
             clear c21
             by_cases c22 : x60_3 < ((rd_L1 l0_3 x53_2).length : Int)
             ·rw [if_pos c22] at H
              have c22b0 : decide (x60_3 < ((rd_L1 l0_3 x53_2).length : Int)) = true := decide_eq_true c22
              clear c22
              obtain ⟨bq23, hbq23⟩ : ∃ b_ : Bool, b_ = (rdOf false (rd_L1 l0_3 x53_2) x60_3) := ⟨_, rfl⟩
              replace H : (if bq23 = true then (if x3_3.length < 8796093022208 then (impl_edgesOf.l3 k3 (x3_3 ++ [(⟨wrap64 ((wrap64 (x60_3 * (wrap64 (a0_1 + 1)))) + x53_2), wrap64 ((wrap64 ((wrap64 (x60_3 + 1)) * (wrap64 (a0_1 + 1)))) + x53_2)⟩ : S82)]) (wrap64 (a0_1 + 1)) x53_2 l0_3 (l0_3.length : Int) x53_2 (rd_L1 l0_3 x53_2) ((rd_L1 l0_3 x53_2).length : Int) (wrap64 (x60_3 + 1))) else (none)) else (impl_edgesOf.l3 k3 x3_3 (wrap64 (a0_1 + 1)) x53_2 l0_3 (l0_3.length : Int) x53_2 (rd_L1 l0_3 x53_2) ((rd_L1 l0_3 x53_2).length : Int) (wrap64 (x60_3 + 1)))) = some r := by rw [← hbq23] at H; exact H
              have Nbq23 := asd hbq23
              clear hbq23
              by_cases c24 : bq23 = true
              ·subst c24
               have H1 : (if x3_3.length < 8796093022208 then (impl_edgesOf.l3 k3 (x3_3 ++ [(⟨wrap64 ((wrap64 (x60_3 * (wrap64 (a0_1 + 1)))) + x53_2), wrap64 ((wrap64 ((wrap64 (x60_3 + 1)) * (wrap64 (a0_1 + 1)))) + x53_2)⟩ : S82)]) (wrap64 (a0_1 + 1)) x53_2 l0_3 (l0_3.length : Int) x53_2 (rd_L1 l0_3 x53_2) ((rd_L1 l0_3 x53_2).length : Int) (wrap64 (x60_3 + 1))) else (none)) = some r := by rw [if_pos rfl] at H; exact H
               clear H
               have H := H1
               clear H1
               by_cases c25 : x3_3.length < 8796093022208
               ·rw [if_pos c25] at H
                have LMc25 := asd c25
                clear c25
                obtain ⟨y151, hy151⟩ : ∃ y_ : List (S82), y_ = (x3_3 ++ [(⟨wrap64 ((wrap64 (x60_3 * (wrap64 (a0_1 + 1)))) + x53_2), wrap64 ((wrap64 ((wrap64 (x60_3 + 1)) * (wrap64 (a0_1 + 1)))) + x53_2)⟩ : S82)]) := ⟨_, rfl⟩
                replace H : (impl_edgesOf.l3 k3 y151 (wrap64 (a0_1 + 1)) x53_2 l0_3 (l0_3.length : Int) x53_2 (rd_L1 l0_3 x53_2) ((rd_L1 l0_3 x53_2).length : Int) (wrap64 (x60_3 + 1))) = some r := by first | (rw [hy151]; with_reducible exact H) | (have H2_ := (Option.bind_some _ _).symm.trans H; rw [hy151]; with_reducible exact H2_) | (have H2_ := (Option.bind_some _ _).symm.trans H; with_reducible exact H2_) | with_reducible exact H | (rw [hy151]; exact H) | exact H
                have Ny151 := asd hy151
                clear hy151
                have H' := asd H
                clear H
                have p150 : 0 ≤ (x60_3 : Int) := of_decide_eq_true (by first | (with_reducible assumption) | assumption)
                have q150 : x60_3 < ((rd_L1 l0_3 x53_2).length : Int) := of_decide_eq_true (by first | (with_reducible assumption) | assumption)
                obtain ⟨ad150, e150, hx150_0⟩ := Kd.at_bool HR149_0.out x60_3 p150 q150
                (try rw [← Nbq23.out] at hx150_0)
                cases e150
                replace hx150_0 := (HB.out.cell (World.block_lt_of_cell? w _ hx150_0)).trans hx150_0
                replace p150 := eq_true p150
                replace q150 := eq_true q150
                go_wp2_with (first | ((with_reducible refine gate_builtin (b := .append) (xs := #[.tmp 66, .tmp 79]) rfl ?_); at_builtin; refine Kd.R_append k82 (w0 := w) w.heap.size rfl (.tmp 66) (.tmp 79) 71 82 (.agg #[(.int .i64 0), (.int .i64 0)]) 16 rfl Try.underlying71 info82 rfl (by decide) (by omega) u3 x3_3 (⟨wrap64 ((wrap64 (x60_3 * (wrap64 (a0_1 + 1)))) + x53_2), wrap64 ((wrap64 ((wrap64 (x60_3 + 1)) * (wrap64 (a0_1 + 1)))) + x53_2)⟩ : S82) [.int .i64 (wrap64 ((wrap64 (x60_3 * (wrap64 (a0_1 + 1)))) + x53_2)), .int .i64 (wrap64 ((wrap64 ((wrap64 (x60_3 + 1)) * (wrap64 (a0_1 + 1)))) + x53_2))] (fun _ => True) (fun _ => False) rfl rfl ?aP (fun _ hk => hk.elim) ?aF ?aO ?aB ?aS ?aL ?_; (case aP => exact k82_mkM _ _ _ (⟨wrap64 ((wrap64 (x60_3 * (wrap64 (a0_1 + 1)))) + x53_2), wrap64 ((wrap64 ((wrap64 (x60_3 + 1)) * (wrap64 (a0_1 + 1)))) + x53_2)⟩ : S82)); (case aB => exact (by repeat (first | (with_reducible first | exact HB.out | apply below_alloc | apply pw_below_drewN | apply below_drew1 | refine below_set ?_ GE140.out) | exact HB.out))); (case aF => exact (fun _ _ => trivial)); (case aO => exact (by (with_reducible repeat (first | apply Kd.R_alloc | apply Kd.R_drewN | apply Kd.R_drew)); exact HO_3.out)); (case aS => exact (below_size (by repeat (first | (with_reducible first | exact HB.out | apply below_alloc | apply pw_below_drewN | apply below_drew1 | refine below_set ?_ GE140.out) | exact HB.out)))); (case aL => have := LMc25.out; omega); intro v152 w26 ho hb hg hat; rw [← Ny151.out] at ho; have n0_ := asd (blk_grown (g := gb140) (o := .cells #[.int .i64 a0_0, .int .i64 a0_1, .slice A0_2 l0_2.length c0_2, .slice (some ad149) l0_3.length c0_3] 27 (0, 0)) (by (with_reducible repeat (first | refine blk_drewN ?_ _ | refine blk_drew ?_ | refine blk_alloc ?_ _)); exact BK140.out) hg (Kd.R_ne HO_3.out BK140.out (by decide))); have n1_ := asd (hb); have n2_ := asd (ho); clear BK140 HB HO_3; have BK140 := n0_; have HB := n1_; have HO153 := n2_; clear n0_ n1_ n2_; clear ho hb hg hat))
                go_roundg k3
                case measure => have := HK1.out; have := HK2.out; have := HK3.out; omega
                case rel => exact ⟨(y151), (wrap64 (x60_3 + 1)), (by first | rfl | (simp; done) | (simp [*]; done)), H', ⟨by have := HK1.out; have := HK2.out; have := HK3.out; omega⟩, ⟨by (with_reducible repeat (first | apply Kd.R_alloc | apply Kd.R_drewN | apply Kd.R_drew)); exact HO153.out⟩, ⟨by (with_reducible repeat (first | refine blk_drewN ?_ _ | refine blk_drew ?_ | refine blk_alloc ?_ _)); exact BK140.out⟩, ⟨by repeat (first | (with_reducible first | exact HB.out | apply below_alloc | apply pw_below_drewN | apply below_drew1 | refine below_set ?_ GE140.out) | exact HB.out)⟩⟩
               ·rw [if_neg c25] at H
                exact absurd H (by simp)
              ·replace c24 := Bool.eq_false_iff.mpr c24
               subst c24
               have H1 : (impl_edgesOf.l3 k3 x3_3 (wrap64 (a0_1 + 1)) x53_2 l0_3 (l0_3.length : Int) x53_2 (rd_L1 l0_3 x53_2) ((rd_L1 l0_3 x53_2).length : Int) (wrap64 (x60_3 + 1))) = some r := by rw [if_neg (show ¬ (false = true) by decide)] at H; exact H
               clear H
               have H := H1
               clear H1
               have H' := asd H
               clear H
               have p150 : 0 ≤ (x60_3 : Int) := of_decide_eq_true (by first | (with_reducible assumption) | assumption)
               have q150 : x60_3 < ((rd_L1 l0_3 x53_2).length : Int) := of_decide_eq_true (by first | (with_reducible assumption) | assumption)
               obtain ⟨ad150, e150, hx150_0⟩ := Kd.at_bool HR149_0.out x60_3 p150 q150
               (try rw [← Nbq23.out] at hx150_0)
               cases e150
               replace hx150_0 := (HB.out.cell (World.block_lt_of_cell? w _ hx150_0)).trans hx150_0
               replace p150 := eq_true p150
               replace q150 := eq_true q150
               go_wp2
               go_roundg k3
               case measure => have := HK1.out; have := HK2.out; have := HK3.out; omega
               case rel => exact ⟨(x3_3), (wrap64 (x60_3 + 1)), (by first | rfl | (simp; done) | (simp [*]; done)), H', ⟨by have := HK1.out; have := HK2.out; have := HK3.out; omega⟩, ⟨by (with_reducible repeat (first | apply Kd.R_alloc | apply Kd.R_drewN | apply Kd.R_drew)); exact HO_3.out⟩, ⟨by (with_reducible repeat (first | refine blk_drewN ?_ _ | refine blk_drew ?_ | refine blk_alloc ?_ _)); exact BK140.out⟩, ⟨by repeat (first | (with_reducible first | exact HB.out | apply below_alloc | apply pw_below_drewN | apply below_drew1 | refine below_set ?_ GE140.out) | exact HB.out)⟩⟩
             ·rw [if_neg c22] at H
              exact absurd H (by simp)
            ·rw [if_neg c21] at H
             exact absurd H (by simp)
           ·rw [if_neg c20] at H
            have c20b0 : decide (x60_3 < ((rd_L1 l0_3 x53_2).length : Int)) = false := decide_eq_false c20
            clear c20
            have H' := asd H
            clear H
            go_wp2
            go_roundg k3
            case measure => have := HK1.out; have := HK2.out; have := HK3.out; omega
            case rel => exact ⟨(x3_3), (wrap64 (x53_2 + 1)), (by first | rfl | (simp; done) | (simp [*]; done)), H', ⟨by have := HK1.out; have := HK2.out; have := HK3.out; omega⟩, ⟨by (with_reducible repeat (first | apply Kd.R_alloc | apply Kd.R_drewN | apply Kd.R_drew)); exact HO_3.out⟩, ⟨by (with_reducible repeat (first | refine blk_drewN ?_ _ | refine blk_drew ?_ | refine blk_alloc ?_ _)); exact BK140.out⟩, ⟨by repeat (first | (with_reducible first | exact HB.out | apply below_alloc | apply pw_below_drewN | apply below_drew1 | refine below_set ?_ GE140.out) | exact HB.out)⟩⟩
        ·rw [if_neg c19] at H
         exact absurd H (by simp)
       ·rw [if_neg c18] at H
        exact absurd H (by simp)
      ·rw [if_neg c17] at H
       have c17b0 : decide (x53_2 < (l0_3.length : Int)) = false := decide_eq_false c17
       clear c17
       obtain rfl := Option.some.inj H
       go_wp2
       go_ret
       exact ⟨_, by first | rfl | (simp [errW_none, errW_some] <;> rfl) | (simp [*, errW_none, errW_some] <;> rfl), by (with_reducible repeat (first | apply Kd.R_alloc | apply Kd.R_drewN | apply Kd.R_drew)); exact HO_3.out, by repeat (first | (with_reducible first | exact HB.out | apply below_alloc | apply pw_below_drewN | apply below_drew1 | refine below_set ?_ GE140.out) | exact HB.out)⟩

end Go.Proofs.Ytdinbpfklikghaa.PLoops
