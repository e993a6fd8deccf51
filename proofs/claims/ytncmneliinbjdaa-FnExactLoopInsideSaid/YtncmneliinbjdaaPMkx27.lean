/- Functions of the program, and what a call comes to. No conditions. -/
import Derived.Test.YtncmneliinbjdaaPMkx0
namespace Go.Proofs.Ytncmneliinbjdaa.PMk
open Go.RowKit Go.Proofs.YtncmneliinbjdaaW.PrintWords Go.Proofs.YtncmneliinbjdaaW.PrintLast Go.Proofs.YtncmneliinbjdaaW.PrintMore
set_option linter.unusedVariables false
set_option linter.unusedSimpArgs false

/-! ### impl_edgesOf: function 65 -/
mutual
def impl_edgesOf.l0 : Nat → List (S67) → Int → List (List Bool) → Int → Int → Int → Int → List (List Bool) → List (List Bool) → Option ((List (S67)))
 | 0, _, _, _, _, _, _, _, _, _ => none
 | k + 1, x3, x4, x18, x19, x20, x322000, x322001, x322002, x322003 => if x20 < x19 then (if 0 ≤ x20 then (if x20 < (x18.length : Int) then (impl_edgesOf.l1 k x3 x4 x20 x18 x19 x20 (rd_L1 x18 x20) ((rd_L1 x18 x20).length : Int) 0 x322000 x322001 x322002 x322003) else (none)) else (none)) else (impl_edgesOf.l2 k x3 x4 x322003 (x322003.length : Int) 0)
def impl_edgesOf.l1 : Nat → List (S67) → Int → Int → List (List Bool) → Int → Int → List Bool → Int → Int → Int → Int → List (List Bool) → List (List Bool) → Option ((List (S67)))
 | 0, _, _, _, _, _, _, _, _, _, _, _, _, _ => none
 | k + 1, x3, x4, x5, x18, x19, x20, x25, x26, x27, x322000, x322001, x322002, x322003 => if x27 < x26 then (if 0 ≤ x27 then (if x27 < (x25.length : Int) then (if rdOf false x25 x27 = true then (if x3.length < 8796093022208 then (impl_edgesOf.l1 k (x3 ++ [(⟨wrap64 ((wrap64 (x5 * x4)) + x27), wrap64 ((wrap64 ((wrap64 (x5 * x4)) + x27)) + 1)⟩ : S67)]) x4 x5 x18 x19 x20 x25 x26 (wrap64 (x27 + 1)) x322000 x322001 x322002 x322003) else (none)) else (impl_edgesOf.l1 k x3 x4 x5 x18 x19 x20 x25 x26 (wrap64 (x27 + 1)) x322000 x322001 x322002 x322003)) else (none)) else (none)) else (impl_edgesOf.l0 k x3 x4 x18 x19 (wrap64 (x20 + 1)) x322000 x322001 x322002 x322003)
def impl_edgesOf.l2 : Nat → List (S67) → Int → List (List Bool) → Int → Int → Option ((List (S67)))
 | 0, _, _, _, _, _ => none
 | k + 1, x3, x4, x51, x52, x53 => if x53 < x52 then (if 0 ≤ x53 then (if x53 < (x51.length : Int) then (impl_edgesOf.l3 k x3 x4 x53 x51 x52 x53 (rd_L1 x51 x53) ((rd_L1 x51 x53).length : Int) 0) else (none)) else (none)) else (some x3)
def impl_edgesOf.l3 : Nat → List (S67) → Int → Int → List (List Bool) → Int → Int → List Bool → Int → Int → Option ((List (S67)))
 | 0, _, _, _, _, _, _, _, _, _ => none
 | k + 1, x3, x4, x9, x51, x52, x53, x58, x59, x60 => if x60 < x59 then (if 0 ≤ x60 then (if x60 < (x58.length : Int) then (if rdOf false x58 x60 = true then (if x3.length < 8796093022208 then (impl_edgesOf.l3 k (x3 ++ [(⟨wrap64 ((wrap64 (x60 * x4)) + x9), wrap64 ((wrap64 ((wrap64 (x60 + 1)) * x4)) + x9)⟩ : S67)]) x4 x9 x51 x52 x53 x58 x59 (wrap64 (x60 + 1))) else (none)) else (impl_edgesOf.l3 k x3 x4 x9 x51 x52 x53 x58 x59 (wrap64 (x60 + 1)))) else (none)) else (none)) else (impl_edgesOf.l2 k x3 x4 x51 x52 (wrap64 (x53 + 1)))
end
def impl_edgesOf.f (k : Nat) (a0_0 : Int) (a0_1 : Int) (l0_2 : List (List Bool)) (l0_3 : List (List Bool)) : Option ((List (S67))) := impl_edgesOf.l0 k (([] : List (S67))) (wrap64 (a0_1 + 1)) l0_2 (l0_2.length : Int) 0 a0_0 a0_1 l0_2 l0_3
theorem impl_edgesOf.mono_l : ∀ k, (∀ y0 y1 y2 y3 y4 y5 y6 y7 y8, LeO (impl_edgesOf.l0 k y0 y1 y2 y3 y4 y5 y6 y7 y8) (impl_edgesOf.l0 (k + 1) y0 y1 y2 y3 y4 y5 y6 y7 y8)) ∧ (∀ y0 y1 y2 y3 y4 y5 y6 y7 y8 y9 y10 y11 y12, LeO (impl_edgesOf.l1 k y0 y1 y2 y3 y4 y5 y6 y7 y8 y9 y10 y11 y12) (impl_edgesOf.l1 (k + 1) y0 y1 y2 y3 y4 y5 y6 y7 y8 y9 y10 y11 y12)) ∧ (∀ y0 y1 y2 y3 y4, LeO (impl_edgesOf.l2 k y0 y1 y2 y3 y4) (impl_edgesOf.l2 (k + 1) y0 y1 y2 y3 y4)) ∧ (∀ y0 y1 y2 y3 y4 y5 y6 y7 y8, LeO (impl_edgesOf.l3 k y0 y1 y2 y3 y4 y5 y6 y7 y8) (impl_edgesOf.l3 (k + 1) y0 y1 y2 y3 y4 y5 y6 y7 y8))
 | 0 => ⟨fun _ _ _ _ _ _ _ _ _ r h => by simp [impl_edgesOf.l0] at h, fun _ _ _ _ _ _ _ _ _ _ _ _ _ r h => by simp [impl_edgesOf.l1] at h, fun _ _ _ _ _ r h => by simp [impl_edgesOf.l2] at h, fun _ _ _ _ _ _ _ _ _ r h => by simp [impl_edgesOf.l3] at h⟩
 | k + 1 => by
  obtain ⟨ih0, ih1, ih2, ih3⟩ := impl_edgesOf.mono_l k
  refine ⟨?_, ?_, ?_, ?_⟩
  ·intro y0 y1 y2 y3 y4 y5 y6 y7 y8
   unfold impl_edgesOf.l0
   repeat' first | (with_reducible first | exact ih0 _ _ _ _ _ _ _ _ _ | exact ih1 _ _ _ _ _ _ _ _ _ _ _ _ _ | exact ih2 _ _ _ _ _ | exact ih3 _ _ _ _ _ _ _ _ _ | exact LeO.refl _ | exact LeO.none _ | refine LeO.ite ?_ ?_ | refine LeO.bind ?_ (fun _ => ?_)) | exact LeO.none _ | refine LeO.ite ?_ ?_ | refine LeO.bind ?_ (fun _ => ?_)
  ·intro y0 y1 y2 y3 y4 y5 y6 y7 y8 y9 y10 y11 y12
   unfold impl_edgesOf.l1
   repeat' first | (with_reducible first | exact ih0 _ _ _ _ _ _ _ _ _ | exact ih1 _ _ _ _ _ _ _ _ _ _ _ _ _ | exact ih2 _ _ _ _ _ | exact ih3 _ _ _ _ _ _ _ _ _ | exact LeO.refl _ | exact LeO.none _ | refine LeO.ite ?_ ?_ | refine LeO.bind ?_ (fun _ => ?_)) | exact LeO.none _ | refine LeO.ite ?_ ?_ | refine LeO.bind ?_ (fun _ => ?_)
  ·intro y0 y1 y2 y3 y4
   unfold impl_edgesOf.l2
   repeat' first | (with_reducible first | exact ih0 _ _ _ _ _ _ _ _ _ | exact ih1 _ _ _ _ _ _ _ _ _ _ _ _ _ | exact ih2 _ _ _ _ _ | exact ih3 _ _ _ _ _ _ _ _ _ | exact LeO.refl _ | exact LeO.none _ | refine LeO.ite ?_ ?_ | refine LeO.bind ?_ (fun _ => ?_)) | exact LeO.none _ | refine LeO.ite ?_ ?_ | refine LeO.bind ?_ (fun _ => ?_)
  ·intro y0 y1 y2 y3 y4 y5 y6 y7 y8
   unfold impl_edgesOf.l3
   repeat' first | (with_reducible first | exact ih0 _ _ _ _ _ _ _ _ _ | exact ih1 _ _ _ _ _ _ _ _ _ _ _ _ _ | exact ih2 _ _ _ _ _ | exact ih3 _ _ _ _ _ _ _ _ _ | exact LeO.refl _ | exact LeO.none _ | refine LeO.ite ?_ ?_ | refine LeO.bind ?_ (fun _ => ?_)) | exact LeO.none _ | refine LeO.ite ?_ ?_ | refine LeO.bind ?_ (fun _ => ?_)
theorem impl_edgesOf.mono : ∀ a0 a1 a2 a3 k, LeO (impl_edgesOf.f k a0 a1 a2 a3) (impl_edgesOf.f (k + 1) a0 a1 a2 a3) := by
 intro a0 a1 a2 a3 k
 obtain ⟨ih0, ih1, ih2, ih3⟩ := impl_edgesOf.mono_l k
 unfold impl_edgesOf.f
 repeat' first | (with_reducible first | exact ih0 _ _ _ _ _ _ _ _ _ | exact ih1 _ _ _ _ _ _ _ _ _ _ _ _ _ | exact ih2 _ _ _ _ _ | exact ih3 _ _ _ _ _ _ _ _ _ | exact LeO.refl _ | exact LeO.none _ | refine LeO.ite ?_ ?_ | refine LeO.bind ?_ (fun _ => ?_)) | exact LeO.none _ | refine LeO.ite ?_ ?_ | refine LeO.bind ?_ (fun _ => ?_)
set_option maxHeartbeats 8000000 in
set_option maxRecDepth 100000 in
theorem impl_edgesOf.calls (k : Nat) (a0_0 : Int) (a0_1 : Int) (A0_2 : Option Addr) (c0_2 : Nat) (l0_2 : List (List Bool)) (A0_3 : Option Addr) (c0_3 : Nat) (l0_3 : List (List Bool)) (r : List (S67)) (w : World) (hr0_2 : Kd.C (Kd.slice 4 Kd.bool) w A0_2 l0_2.length l0_2) (hc0_2 : l0_2.length ≤ c0_2) (hr0_3 : Kd.C (Kd.slice 4 Kd.bool) w A0_3 l0_3.length l0_3) (hc0_3 : l0_3.length ≤ c0_3) (h : impl_edgesOf.f k a0_0 a0_1 l0_2 l0_3 = some r) :
  Calls Try.prog 65 #[.agg #[.int .i64 a0_0, .int .i64 a0_1, .slice A0_2 l0_2.length c0_2, .slice A0_3 l0_3.length c0_3]] w fun e w' => ∃ v0_ : Value, e = .returned (v0_) ∧ Kd.R k67 67 w' w.heap.size (fun _ => True) v0_ r ∧ Below w.heap.size w w' := by
 have hu25 := Try.underlying25
 have hu67 := Try.underlying67
 have HR0_2 := asd hr0_2
 have HC0_2 := asd hc0_2
 clear hr0_2 hc0_2
 have HR0_3 := asd hr0_3
 have HC0_3 := asd hc0_3
 clear hr0_3 hc0_3
 have HB := asd (Below.refl w.heap.size w)
 have H : (impl_edgesOf.l0 k (([] : List (S67))) (wrap64 (a0_1 + 1)) l0_2 (l0_2.length : Int) 0 a0_0 a0_1 l0_2 l0_3) = some r := h
 clear h
 obtain ⟨y322, hy322⟩ : ∃ y_ : List (S67), y_ = (([] : List (S67))) := ⟨_, rfl⟩
 replace H : (impl_edgesOf.l0 k y322 (wrap64 (a0_1 + 1)) l0_2 (l0_2.length : Int) 0 a0_0 a0_1 l0_2 l0_3) = some r := by first | (rw [hy322]; with_reducible exact H) | (have H2_ := (Option.bind_some _ _).symm.trans H; rw [hy322]; with_reducible exact H2_) | (have H2_ := (Option.bind_some _ _).symm.trans H; with_reducible exact H2_) | with_reducible exact H | (rw [hy322]; exact H) | exact H
 have Ny322 := asd hy322
 clear hy322
 have H' := asd H
 clear H
 go_enter Try.func65, Try.ntmps65
 go_wp2_with (first | ((with_reducible refine gate_dst (N := 1) rfl ?_); refine box_event ?hg (N := 1) ?hd (cs := #[.int .i64 a0_0, .int .i64 a0_1, .slice A0_2 l0_2.length c0_2, .slice A0_3 l0_3.length c0_3]) (t := 25) ?hr ?_; (case hd => rfl); (case hg => rfl); (case hr => first | (go_simp; done) | (go_simp; rfl)); intro gb321 hg w2 hbox hb; have n0_ := asd (below_step (by repeat (first | (with_reducible first | exact HB.out | apply below_alloc | apply pw_below_drewN | apply below_drew1) | exact HB.out)) hb); have n1_ := asd (hbox); have n2_ := asd ((by rw [hg]; exact (below_size (by repeat (first | (with_reducible first | exact HB.out | apply below_alloc | apply pw_below_drewN | apply below_drew1) | exact HB.out))) : w.heap.size ≤ gb321)); have n3_ := asd ((by rw [hg]; exact (below_size (by repeat (first | (with_reducible first | exact HB.out | apply below_alloc | apply pw_below_drewN | apply below_drew1) | exact HB.out))) : w.heap.size ≤ gb321)); clear HB; have HB := n0_; have BK321 := n1_; have GW321 := n2_; have GE321 := n3_; clear n0_ n1_ n2_ n3_; clear hb hbox hg) | ((with_reducible refine gate_dst (N := 13) rfl ?_); refine Kd.R_lit k67 _ 67 ?hg (N := 13) ?hd (xs := ([] : List (S67))) (inner := []) (ok := fun _ => True) (okp := fun _ => True) ?hr ?hp (fun _ hk => hk) trivial (Below.refl _ _) (Nat.le_refl _) (by simp) ?_; (case hd => rfl); (case hg => rfl); (case hr => first | (go_simp; done) | (go_simp; rfl)); (case hp => exact (Reps.none _ _)); intro v323 w3 ho4 hb hg_ hnew_; clear hg_ hnew_; (first | rw [← Ny322.out] at ho4 | (simp only [Int.reduceToNat] at ho4; rw [← Ny322.out] at ho4)); have n0_ := asd (Kd.R_lower ho4 (below_size (by repeat (first | (with_reducible first | exact HB.out | apply below_alloc | apply pw_below_drewN | apply below_drew1 | refine below_set ?_ GE321.out) | exact HB.out)))); have n1_ := asd (blk_below (g := gb321) (o := .cells #[.int .i64 a0_0, .int .i64 a0_1, .slice A0_2 l0_2.length c0_2, .slice A0_3 l0_3.length c0_3] 25 (0, 0)) (by (with_reducible repeat (first | refine blk_drewN ?_ _ | refine blk_drew ?_ | refine blk_alloc ?_ _)); exact BK321.out) hb); have n2_ := asd (below_step (by repeat (first | (with_reducible first | exact HB.out | apply below_alloc | apply pw_below_drewN | apply below_drew1 | refine below_set ?_ GE321.out) | exact HB.out)) hb); clear BK321 HB; have HO324 := n0_; have BK321 := n1_; have HB := n2_; clear n0_ n1_ n2_ hb ho4; have hcz5_0 : w3.cell? ⟨gb321, 0, none⟩ = some (.int .i64 a0_0) := (blk_cell BK321.out 0).trans rfl; have hcz5_1 : w3.cell? ⟨gb321, 1, none⟩ = some (.int .i64 a0_1) := (blk_cell BK321.out 1).trans rfl; have hcz5_2 : w3.cell? ⟨gb321, 2, none⟩ = some (.slice A0_2 l0_2.length c0_2) := (blk_cell BK321.out 2).trans rfl; have hcz5_3 : w3.cell? ⟨gb321, 3, none⟩ = some (.slice A0_3 l0_3.length c0_3) := (blk_cell BK321.out 3).trans rfl; have hfz5_0 := blk_frozen BK321.out 0; have hfz5_1 := blk_frozen BK321.out 1; have hfz5_2 := blk_frozen BK321.out 2; have hfz5_3 := blk_frozen BK321.out 3))
 go_loopg [3, 20] k (fun kq v3 v20 w' => ∃ (x3_1 : List (S67)) (x20_1 : Int), v20 = .int .i64 x20_1 ∧ Aside0 (impl_edgesOf.l0 kq x3_1 (wrap64 (a0_1 + 1)) l0_2 (l0_2.length : Int) x20_1 a0_0 a0_1 l0_2 l0_3 = some r) ∧ Aside0 (kq ≤ k) ∧ Aside0 (Kd.R k67 67 w' w.heap.size (fun _ => True) v3 x3_1) ∧ Aside0 (w'.heap[gb321]? = some (.cells #[.int .i64 a0_0, .int .i64 a0_1, (.slice A0_2 l0_2.length c0_2), (.slice A0_3 l0_3.length c0_3)] 25 (0, 0))) ∧ Aside0 (Below w.heap.size w w'))
 case atStart => exact ⟨(y322), (0), (by first | rfl | (simp; done) | (simp [*]; done)), H', ⟨Nat.le_refl _⟩, ⟨by (with_reducible repeat (first | apply Kd.R_alloc | apply Kd.R_drewN | apply Kd.R_drew)); exact HO324.out⟩, ⟨by (with_reducible repeat (first | refine blk_drewN ?_ _ | refine blk_drew ?_ | refine blk_alloc ?_ _)); exact BK321.out⟩, ⟨by repeat (first | (with_reducible first | exact HB.out | apply below_alloc | apply pw_below_drewN | apply below_drew1 | refine below_set ?_ GE321.out) | exact HB.out)⟩⟩
 case round =>
  clear H'; try clear p2; try clear hcz5_0; try clear hcz5_1; try clear hcz5_2; try clear hcz5_3; try clear hfz5_0; try clear hfz5_1; try clear hfz5_2; try clear hfz5_3
  obtain ⟨x3_1, x20_1, rfl, HA, HK1, HO_3, BK321, HB⟩ := hrel
  cases gk with
  | zero => exact absurd HA.out (by simp [impl_edgesOf.l0])
  | succ k1 =>
   have H := HA.out
   clear HA
   simp only [impl_edgesOf.l0] at H
   by_cases c6 : x20_1 < (l0_2.length : Int)
   ·rw [if_pos c6] at H
    have c6b0 : decide (x20_1 < (l0_2.length : Int)) = true := decide_eq_true c6
    clear c6
    by_cases c7 : 0 ≤ x20_1
    ·rw [if_pos c7] at H
     have c7b0 : decide (0 ≤ x20_1) = true := decide_eq_true c7
     clear c7
     by_cases c8 : x20_1 < (l0_2.length : Int)
     ·rw [if_pos c8] at H
      have c8b0 : decide (x20_1 < (l0_2.length : Int)) = true := decide_eq_true c8
      clear c8
      have H' := asd H
      clear H
      have p325 : 0 ≤ (x20_1 : Int) := of_decide_eq_true (by first | (with_reducible assumption) | assumption)
      have q325 : x20_1 < (l0_2.length : Int) := of_decide_eq_true (by first | (with_reducible assumption) | assumption)
      obtain ⟨ad325, A325_0, c325_0, e325, hx325_0, hl325_0, hi325_0⟩ := at_L1 HR0_2.out x20_1 p325 q325
      cases e325
      replace hx325_0 := (HB.out.cell (World.block_lt_of_cell? w _ hx325_0)).trans hx325_0
      have HR325_0 := asd hi325_0
      have HC325_0 := asd hl325_0
      clear hi325_0 hl325_0
      replace p325 := eq_true p325
      replace q325 := eq_true q325
      go_wp2
      go_loopg [3, 27] k1 (fun kq v3 v27 w' => ∃ (x3_2 : List (S67)) (x27_2 : Int), v27 = .int .i64 x27_2 ∧ Aside0 (impl_edgesOf.l1 kq x3_2 (wrap64 (a0_1 + 1)) x20_1 l0_2 (l0_2.length : Int) x20_1 (rd_L1 l0_2 x20_1) ((rd_L1 l0_2 x20_1).length : Int) x27_2 a0_0 a0_1 l0_2 l0_3 = some r) ∧ Aside0 (kq ≤ k1) ∧ Aside0 (Kd.R k67 67 w' w.heap.size (fun _ => True) v3 x3_2) ∧ Aside0 (w'.heap[gb321]? = some (.cells #[.int .i64 a0_0, .int .i64 a0_1, (.slice (some ad325) l0_2.length c0_2), (.slice A0_3 l0_3.length c0_3)] 25 (0, 0))) ∧ Aside0 (Below w.heap.size w w'))
      case atStart => exact ⟨(x3_1), (0), (by first | rfl | (simp; done) | (simp [*]; done)), H', ⟨Nat.le_refl _⟩, ⟨by (with_reducible repeat (first | apply Kd.R_alloc | apply Kd.R_drewN | apply Kd.R_drew)); exact HO_3.out⟩, ⟨by (with_reducible repeat (first | refine blk_drewN ?_ _ | refine blk_drew ?_ | refine blk_alloc ?_ _)); exact BK321.out⟩, ⟨by repeat (first | (with_reducible first | exact HB.out | apply below_alloc | apply pw_below_drewN | apply below_drew1 | refine below_set ?_ GE321.out) | exact HB.out)⟩⟩
      case round =>
       clear H'; try clear c3; try clear p3; try clear q3; try clear hx3; try clear c6b0; try clear p6; try clear c7b0; try clear c8b0; try clear hx325_0; try clear p325; try clear q325
       obtain ⟨x3_2, x27_2, rfl, HA, HK2, HO_3, BK321, HB⟩ := hrel
       cases gk with
       | zero => exact absurd HA.out (by simp [impl_edgesOf.l1])
       | succ k2 =>
        have H := HA.out
        clear HA
        simp only [impl_edgesOf.l1] at H
        by_cases c9 : x27_2 < ((rd_L1 l0_2 x20_1).length : Int)
        ·rw [if_pos c9] at H
         have c9b0 : decide (x27_2 < ((rd_L1 l0_2 x20_1).length : Int)) = true := decide_eq_true c9
         clear c9
         by_cases c10 : 0 ≤ x27_2
         ·rw [if_pos c10] at H
          have c10b0 : decide (0 ≤ x27_2) = true := decide_eq_true c10
          clear c10
          by_cases c11 : x27_2 < ((rd_L1 l0_2 x20_1).length : Int)
          ·rw [if_pos c11] at H
           have c11b0 : decide (x27_2 < ((rd_L1 l0_2 x20_1).length : Int)) = true := decide_eq_true c11
           clear c11
           obtain ⟨bq12, hbq12⟩ : ∃ b_ : Bool, b_ = (rdOf false (rd_L1 l0_2 x20_1) x27_2) := ⟨_, rfl⟩
           replace H : (if bq12 = true then (if x3_2.length < 8796093022208 then (impl_edgesOf.l1 k2 (x3_2 ++ [(⟨wrap64 ((wrap64 (x20_1 * (wrap64 (a0_1 + 1)))) + x27_2), wrap64 ((wrap64 ((wrap64 (x20_1 * (wrap64 (a0_1 + 1)))) + x27_2)) + 1)⟩ : S67)]) (wrap64 (a0_1 + 1)) x20_1 l0_2 (l0_2.length : Int) x20_1 (rd_L1 l0_2 x20_1) ((rd_L1 l0_2 x20_1).length : Int) (wrap64 (x27_2 + 1)) a0_0 a0_1 l0_2 l0_3) else (none)) else (impl_edgesOf.l1 k2 x3_2 (wrap64 (a0_1 + 1)) x20_1 l0_2 (l0_2.length : Int) x20_1 (rd_L1 l0_2 x20_1) ((rd_L1 l0_2 x20_1).length : Int) (wrap64 (x27_2 + 1)) a0_0 a0_1 l0_2 l0_3)) = some r := by rw [← hbq12] at H; exact H
           have Nbq12 := asd hbq12
           clear hbq12
           by_cases c13 : bq12 = true
           ·subst c13
            have H1 : (if x3_2.length < 8796093022208 then (impl_edgesOf.l1 k2 (x3_2 ++ [(⟨wrap64 ((wrap64 (x20_1 * (wrap64 (a0_1 + 1)))) + x27_2), wrap64 ((wrap64 ((wrap64 (x20_1 * (wrap64 (a0_1 + 1)))) + x27_2)) + 1)⟩ : S67)]) (wrap64 (a0_1 + 1)) x20_1 l0_2 (l0_2.length : Int) x20_1 (rd_L1 l0_2 x20_1) ((rd_L1 l0_2 x20_1).length : Int) (wrap64 (x27_2 + 1)) a0_0 a0_1 l0_2 l0_3) else (none)) = some r := by rw [if_pos rfl] at H; exact H
            clear H
            have H := H1
            clear H1
            by_cases c14 : x3_2.length < 8796093022208
            ·rw [if_pos c14] at H
             have LMc14 := asd c14
             clear c14
             obtain ⟨y327, hy327⟩ : ∃ y_ : List (S67), y_ = (x3_2 ++ [(⟨wrap64 ((wrap64 (x20_1 * (wrap64 (a0_1 + 1)))) + x27_2), wrap64 ((wrap64 ((wrap64 (x20_1 * (wrap64 (a0_1 + 1)))) + x27_2)) + 1)⟩ : S67)]) := ⟨_, rfl⟩
             replace H : (impl_edgesOf.l1 k2 y327 (wrap64 (a0_1 + 1)) x20_1 l0_2 (l0_2.length : Int) x20_1 (rd_L1 l0_2 x20_1) ((rd_L1 l0_2 x20_1).length : Int) (wrap64 (x27_2 + 1)) a0_0 a0_1 l0_2 l0_3) = some r := by first | (rw [hy327]; with_reducible exact H) | (have H2_ := (Option.bind_some _ _).symm.trans H; rw [hy327]; with_reducible exact H2_) | (have H2_ := (Option.bind_some _ _).symm.trans H; with_reducible exact H2_) | with_reducible exact H | (rw [hy327]; exact H) | exact H
             have Ny327 := asd hy327
             clear hy327
             have H' := asd H
             clear H
             have p326 : 0 ≤ (x27_2 : Int) := of_decide_eq_true (by first | (with_reducible assumption) | assumption)
             have q326 : x27_2 < ((rd_L1 l0_2 x20_1).length : Int) := of_decide_eq_true (by first | (with_reducible assumption) | assumption)
             obtain ⟨ad326, e326, hx326_0⟩ := Kd.at_bool HR325_0.out x27_2 p326 q326
             (try rw [← Nbq12.out] at hx326_0)
             cases e326
             replace hx326_0 := (HB.out.cell (World.block_lt_of_cell? w _ hx326_0)).trans hx326_0
             replace p326 := eq_true p326
             replace q326 := eq_true q326
             go_wp2_with (first | ((with_reducible refine gate_builtin (b := .append) (xs := #[.tmp 33, .tmp 46]) rfl ?_); at_builtin; refine Kd.R_append k67 (w0 := w) w.heap.size rfl (.tmp 33) (.tmp 46) 65 67 (.agg #[(.int .i64 0), (.int .i64 0)]) 16 rfl Try.underlying65 info67 rfl (by decide) (by omega) u3 x3_2 (⟨wrap64 ((wrap64 (x20_1 * (wrap64 (a0_1 + 1)))) + x27_2), wrap64 ((wrap64 ((wrap64 (x20_1 * (wrap64 (a0_1 + 1)))) + x27_2)) + 1)⟩ : S67) [.int .i64 (wrap64 ((wrap64 (x20_1 * (wrap64 (a0_1 + 1)))) + x27_2)), .int .i64 (wrap64 ((wrap64 ((wrap64 (x20_1 * (wrap64 (a0_1 + 1)))) + x27_2)) + 1))] (fun _ => True) (fun _ => False) rfl rfl ?aP (fun _ hk => hk.elim) ?aF ?aO ?aB ?aS ?aL ?_; (case aP => exact k67_mkM _ _ _ (⟨wrap64 ((wrap64 (x20_1 * (wrap64 (a0_1 + 1)))) + x27_2), wrap64 ((wrap64 ((wrap64 (x20_1 * (wrap64 (a0_1 + 1)))) + x27_2)) + 1)⟩ : S67)); (case aB => exact (by repeat (first | (with_reducible first | exact HB.out | apply below_alloc | apply pw_below_drewN | apply below_drew1 | refine below_set ?_ GE321.out) | exact HB.out))); (case aF => exact (fun _ _ => trivial)); (case aO => exact (by (with_reducible repeat (first | apply Kd.R_alloc | apply Kd.R_drewN | apply Kd.R_drew)); exact HO_3.out)); (case aS => exact (below_size (by repeat (first | (with_reducible first | exact HB.out | apply below_alloc | apply pw_below_drewN | apply below_drew1 | refine below_set ?_ GE321.out) | exact HB.out)))); (case aL => have := LMc14.out; omega); intro v328 w15 ho hb hg hat; rw [← Ny327.out] at ho; have n0_ := asd (blk_grown (g := gb321) (o := .cells #[.int .i64 a0_0, .int .i64 a0_1, .slice (some ad325) l0_2.length c0_2, .slice A0_3 l0_3.length c0_3] 25 (0, 0)) (by (with_reducible repeat (first | refine blk_drewN ?_ _ | refine blk_drew ?_ | refine blk_alloc ?_ _)); exact BK321.out) hg (Kd.R_ne HO_3.out BK321.out (by decide))); have n1_ := asd (hb); have n2_ := asd (ho); clear BK321 HB HO_3; have BK321 := n0_; have HB := n1_; have HO329 := n2_; clear n0_ n1_ n2_; clear ho hb hg hat))
             go_roundg k2
             case measure => have := HK1.out; have := HK2.out; omega
             case rel => exact ⟨(y327), (wrap64 (x27_2 + 1)), (by first | rfl | (simp; done) | (simp [*]; done)), H', ⟨by have := HK1.out; have := HK2.out; omega⟩, ⟨by (with_reducible repeat (first | apply Kd.R_alloc | apply Kd.R_drewN | apply Kd.R_drew)); exact HO329.out⟩, ⟨by (with_reducible repeat (first | refine blk_drewN ?_ _ | refine blk_drew ?_ | refine blk_alloc ?_ _)); exact BK321.out⟩, ⟨by repeat (first | (with_reducible first | exact HB.out | apply below_alloc | apply pw_below_drewN | apply below_drew1 | refine below_set ?_ GE321.out) | exact HB.out)⟩⟩
            ·rw [if_neg c14] at H
             exact absurd H (by simp)
           ·replace c13 := Bool.eq_false_iff.mpr c13
            subst c13
            have H1 : (impl_edgesOf.l1 k2 x3_2 (wrap64 (a0_1 + 1)) x20_1 l0_2 (l0_2.length : Int) x20_1 (rd_L1 l0_2 x20_1) ((rd_L1 l0_2 x20_1).length : Int) (wrap64 (x27_2 + 1)) a0_0 a0_1 l0_2 l0_3) = some r := by rw [if_neg (show ¬ (false = true) by decide)] at H; exact H
            clear H
            have H := H1
            clear H1
            have H' := asd H
            clear H
            have p326 : 0 ≤ (x27_2 : Int) := of_decide_eq_true (by first | (with_reducible assumption) | assumption)
            have q326 : x27_2 < ((rd_L1 l0_2 x20_1).length : Int) := of_decide_eq_true (by first | (with_reducible assumption) | assumption)
            obtain ⟨ad326, e326, hx326_0⟩ := Kd.at_bool HR325_0.out x27_2 p326 q326
            (try rw [← Nbq12.out] at hx326_0)
            cases e326
            replace hx326_0 := (HB.out.cell (World.block_lt_of_cell? w _ hx326_0)).trans hx326_0
            replace p326 := eq_true p326
            replace q326 := eq_true q326
            go_wp2
            go_roundg k2
            case measure => have := HK1.out; have := HK2.out; omega
            case rel => exact ⟨(x3_2), (wrap64 (x27_2 + 1)), (by first | rfl | (simp; done) | (simp [*]; done)), H', ⟨by have := HK1.out; have := HK2.out; omega⟩, ⟨by (with_reducible repeat (first | apply Kd.R_alloc | apply Kd.R_drewN | apply Kd.R_drew)); exact HO_3.out⟩, ⟨by (with_reducible repeat (first | refine blk_drewN ?_ _ | refine blk_drew ?_ | refine blk_alloc ?_ _)); exact BK321.out⟩, ⟨by repeat (first | (with_reducible first | exact HB.out | apply below_alloc | apply pw_below_drewN | apply below_drew1 | refine below_set ?_ GE321.out) | exact HB.out)⟩⟩
          ·rw [if_neg c11] at H
           exact absurd H (by simp)
         ·rw [if_neg c10] at H
          exact absurd H (by simp)
        ·rw [if_neg c9] at H
         have c9b0 : decide (x27_2 < ((rd_L1 l0_2 x20_1).length : Int)) = false := decide_eq_false c9
         clear c9
         have H' := asd H
         clear H
         go_wp2
         go_roundg k2
         case measure => have := HK1.out; have := HK2.out; omega
         case rel => exact ⟨(x3_2), (wrap64 (x20_1 + 1)), (by first | rfl | (simp; done) | (simp [*]; done)), H', ⟨by have := HK1.out; have := HK2.out; omega⟩, ⟨by (with_reducible repeat (first | apply Kd.R_alloc | apply Kd.R_drewN | apply Kd.R_drew)); exact HO_3.out⟩, ⟨by (with_reducible repeat (first | refine blk_drewN ?_ _ | refine blk_drew ?_ | refine blk_alloc ?_ _)); exact BK321.out⟩, ⟨by repeat (first | (with_reducible first | exact HB.out | apply below_alloc | apply pw_below_drewN | apply below_drew1 | refine below_set ?_ GE321.out) | exact HB.out)⟩⟩
     ·rw [if_neg c8] at H
      exact absurd H (by simp)
    ·rw [if_neg c7] at H
     exact absurd H (by simp)
   ·rw [if_neg c6] at H
    have c6b0 : decide (x20_1 < (l0_2.length : Int)) = false := decide_eq_false c6
    clear c6
    have H' := asd H
    clear H
    have hcz16_0 : wr.cell? ⟨gb321, 0, none⟩ = some (.int .i64 a0_0) := (blk_cell BK321.out 0).trans rfl
    have hcz16_1 : wr.cell? ⟨gb321, 1, none⟩ = some (.int .i64 a0_1) := (blk_cell BK321.out 1).trans rfl
    have hcz16_2 : wr.cell? ⟨gb321, 2, none⟩ = some (.slice A0_2 l0_2.length c0_2) := (blk_cell BK321.out 2).trans rfl
    have hcz16_3 : wr.cell? ⟨gb321, 3, none⟩ = some (.slice A0_3 l0_3.length c0_3) := (blk_cell BK321.out 3).trans rfl
    have hfz16_0 := blk_frozen BK321.out 0
    have hfz16_1 := blk_frozen BK321.out 1
    have hfz16_2 := blk_frozen BK321.out 2
    have hfz16_3 := blk_frozen BK321.out 3
    go_wp2
    go_loopg [3, 53] k1 (fun kq v3 v53 w' => ∃ (x3_2 : List (S67)) (x53_2 : Int), v53 = .int .i64 x53_2 ∧ Aside0 (impl_edgesOf.l2 kq x3_2 (wrap64 (a0_1 + 1)) l0_3 (l0_3.length : Int) x53_2 = some r) ∧ Aside0 (kq ≤ k1) ∧ Aside0 (Kd.R k67 67 w' w.heap.size (fun _ => True) v3 x3_2) ∧ Aside0 (w'.heap[gb321]? = some (.cells #[.int .i64 a0_0, .int .i64 a0_1, (.slice A0_2 l0_2.length c0_2), (.slice A0_3 l0_3.length c0_3)] 25 (0, 0))) ∧ Aside0 (Below w.heap.size w w'))
    case atStart => exact ⟨(x3_1), (0), (by first | rfl | (simp; done) | (simp [*]; done)), H', ⟨Nat.le_refl _⟩, ⟨by (with_reducible repeat (first | apply Kd.R_alloc | apply Kd.R_drewN | apply Kd.R_drew)); exact HO_3.out⟩, ⟨by (with_reducible repeat (first | refine blk_drewN ?_ _ | refine blk_drew ?_ | refine blk_alloc ?_ _)); exact BK321.out⟩, ⟨by repeat (first | (with_reducible first | exact HB.out | apply below_alloc | apply pw_below_drewN | apply below_drew1 | refine below_set ?_ GE321.out) | exact HB.out)⟩⟩
    case round =>
     clear H'; try clear c1; try clear q1; try clear c3; try clear p3; try clear q3; try clear hx3; try clear c6b0; try clear p6; try clear c7; try clear c7b0; try clear c8; try clear c8b0; try clear c9; try clear c9b0; try clear c10; try clear c10b0; try clear c11; try clear c11b0; try clear q12; try clear c13; try clear c14; try clear hcz16_0; try clear hcz16_1; try clear hcz16_2; try clear hcz16_3; try clear hfz16_0; try clear hfz16_1; try clear hfz16_2; try clear hfz16_3; try clear hx325_0; try clear hx326_0; try clear p325; try clear p326; try clear q325; try clear q326
     obtain ⟨x3_2, x53_2, rfl, HA, HK2, HO_3, BK321, HB⟩ := hrel
     cases gk with
     | zero => exact absurd HA.out (by simp [impl_edgesOf.l2])
     | succ k2 =>
      have H := HA.out
      clear HA
      simp only [impl_edgesOf.l2] at H
      by_cases c17 : x53_2 < (l0_3.length : Int)
      ·rw [if_pos c17] at H
       have c17b0 : decide (x53_2 < (l0_3.length : Int)) = true := decide_eq_true c17
       clear c17
       by_cases c18 : 0 ≤ x53_2
       ·rw [if_pos c18] at H
        have c18b0 : decide (0 ≤ x53_2) = true := decide_eq_true c18
        clear c18
        by_cases c19 : x53_2 < (l0_3.length : Int)
        ·rw [if_pos c19] at H
         have c19b0 : decide (x53_2 < (l0_3.length : Int)) = true := decide_eq_true c19
         clear c19
         have H' := asd H
         clear H
         have p330 : 0 ≤ (x53_2 : Int) := of_decide_eq_true (by first | (with_reducible assumption) | assumption)
         have q330 : x53_2 < (l0_3.length : Int) := of_decide_eq_true (by first | (with_reducible assumption) | assumption)
         obtain ⟨ad330, A330_0, c330_0, e330, hx330_0, hl330_0, hi330_0⟩ := at_L1 HR0_3.out x53_2 p330 q330
         cases e330
         replace hx330_0 := (HB.out.cell (World.block_lt_of_cell? w _ hx330_0)).trans hx330_0
         have HR330_0 := asd hi330_0
         have HC330_0 := asd hl330_0
         clear hi330_0 hl330_0
         replace p330 := eq_true p330
         replace q330 := eq_true q330
         go_wp2
         go_loopg [3, 60] k2 (fun kq v3 v60 w' => ∃ (x3_3 : List (S67)) (x60_3 : Int), v60 = .int .i64 x60_3 ∧ Aside0 (impl_edgesOf.l3 kq x3_3 (wrap64 (a0_1 + 1)) x53_2 l0_3 (l0_3.length : Int) x53_2 (rd_L1 l0_3 x53_2) ((rd_L1 l0_3 x53_2).length : Int) x60_3 = some r) ∧ Aside0 (kq ≤ k2) ∧ Aside0 (Kd.R k67 67 w' w.heap.size (fun _ => True) v3 x3_3) ∧ Aside0 (w'.heap[gb321]? = some (.cells #[.int .i64 a0_0, .int .i64 a0_1, (.slice A0_2 l0_2.length c0_2), (.slice (some ad330) l0_3.length c0_3)] 25 (0, 0))) ∧ Aside0 (Below w.heap.size w w'))
         case atStart => exact ⟨(x3_2), (0), (by first | rfl | (simp; done) | (simp [*]; done)), H', ⟨Nat.le_refl _⟩, ⟨by (with_reducible repeat (first | apply Kd.R_alloc | apply Kd.R_drewN | apply Kd.R_drew)); exact HO_3.out⟩, ⟨by (with_reducible repeat (first | refine blk_drewN ?_ _ | refine blk_drew ?_ | refine blk_alloc ?_ _)); exact BK321.out⟩, ⟨by repeat (first | (with_reducible first | exact HB.out | apply below_alloc | apply pw_below_drewN | apply below_drew1 | refine below_set ?_ GE321.out) | exact HB.out)⟩⟩
         case round =>
          clear H'; try clear c17b0; try clear c18b0; try clear c19b0; try clear hx330_0; try clear p330; try clear q330
          obtain ⟨x3_3, x60_3, rfl, HA, HK3, HO_3, BK321, HB⟩ := hrel
          cases gk with
          | zero => exact absurd HA.out (by simp [impl_edgesOf.l3])
          | succ k3 =>
           have H := HA.out
           clear HA
           simp only [impl_edgesOf.l3] at H
           by_cases c20 : x60_3 < ((rd_L1 l0_3 x53_2).length : Int)
           ·rw [if_pos c20] at H
            have c20b0 : decide (x60_3 < ((rd_L1 l0_3 x53_2).length : Int)) = true := decide_eq_true c20
            clear c20
            by_cases c21 : 0 ≤ x60_3
            ·rw [if_pos c21] at H
             have c21b0 : decide (0 ≤ x60_3) = true := decide_eq_true c21
             clear c21
             by_cases c22 : x60_3 < ((rd_L1 l0_3 x53_2).length : Int)
             ·rw [if_pos c22] at H
              have c22b0 : decide (x60_3 < ((rd_L1 l0_3 x53_2).length : Int)) = true := decide_eq_true c22
              clear c22
              obtain ⟨bq23, hbq23⟩ : ∃ b_ : Bool, b_ = (rdOf false (rd_L1 l0_3 x53_2) x60_3) := ⟨_, rfl⟩
              replace H : (if bq23 = true then (if x3_3.length < 8796093022208 then (impl_edgesOf.l3 k3 (x3_3 ++ [(⟨wrap64 ((wrap64 (x60_3 * (wrap64 (a0_1 + 1)))) + x53_2), wrap64 ((wrap64 ((wrap64 (x60_3 + 1)) * (wrap64 (a0_1 + 1)))) + x53_2)⟩ : S67)]) (wrap64 (a0_1 + 1)) x53_2 l0_3 (l0_3.length : Int) x53_2 (rd_L1 l0_3 x53_2) ((rd_L1 l0_3 x53_2).length : Int) (wrap64 (x60_3 + 1))) else (none)) else (impl_edgesOf.l3 k3 x3_3 (wrap64 (a0_1 + 1)) x53_2 l0_3 (l0_3.length : Int) x53_2 (rd_L1 l0_3 x53_2) ((rd_L1 l0_3 x53_2).length : Int) (wrap64 (x60_3 + 1)))) = some r := by rw [← hbq23] at H; exact H
              have Nbq23 := asd hbq23
              clear hbq23
              by_cases c24 : bq23 = true
              ·subst c24
               have H1 : (if x3_3.length < 8796093022208 then (impl_edgesOf.l3 k3 (x3_3 ++ [(⟨wrap64 ((wrap64 (x60_3 * (wrap64 (a0_1 + 1)))) + x53_2), wrap64 ((wrap64 ((wrap64 (x60_3 + 1)) * (wrap64 (a0_1 + 1)))) + x53_2)⟩ : S67)]) (wrap64 (a0_1 + 1)) x53_2 l0_3 (l0_3.length : Int) x53_2 (rd_L1 l0_3 x53_2) ((rd_L1 l0_3 x53_2).length : Int) (wrap64 (x60_3 + 1))) else (none)) = some r := by rw [if_pos rfl] at H; exact H
               clear H
               have H := H1
               clear H1
               by_cases c25 : x3_3.length < 8796093022208
               ·rw [if_pos c25] at H
                have LMc25 := asd c25
                clear c25
                obtain ⟨y332, hy332⟩ : ∃ y_ : List (S67), y_ = (x3_3 ++ [(⟨wrap64 ((wrap64 (x60_3 * (wrap64 (a0_1 + 1)))) + x53_2), wrap64 ((wrap64 ((wrap64 (x60_3 + 1)) * (wrap64 (a0_1 + 1)))) + x53_2)⟩ : S67)]) := ⟨_, rfl⟩
                replace H : (impl_edgesOf.l3 k3 y332 (wrap64 (a0_1 + 1)) x53_2 l0_3 (l0_3.length : Int) x53_2 (rd_L1 l0_3 x53_2) ((rd_L1 l0_3 x53_2).length : Int) (wrap64 (x60_3 + 1))) = some r := by first | (rw [hy332]; with_reducible exact H) | (have H2_ := (Option.bind_some _ _).symm.trans H; rw [hy332]; with_reducible exact H2_) | (have H2_ := (Option.bind_some _ _).symm.trans H; with_reducible exact H2_) | with_reducible exact H | (rw [hy332]; exact H) | exact H
                have Ny332 := asd hy332
                clear hy332
                have H' := asd H
                clear H
                have p331 : 0 ≤ (x60_3 : Int) := of_decide_eq_true (by first | (with_reducible assumption) | assumption)
                have q331 : x60_3 < ((rd_L1 l0_3 x53_2).length : Int) := of_decide_eq_true (by first | (with_reducible assumption) | assumption)
                obtain ⟨ad331, e331, hx331_0⟩ := Kd.at_bool HR330_0.out x60_3 p331 q331
                (try rw [← Nbq23.out] at hx331_0)
                cases e331
                replace hx331_0 := (HB.out.cell (World.block_lt_of_cell? w _ hx331_0)).trans hx331_0
                replace p331 := eq_true p331
                replace q331 := eq_true q331
                go_wp2_with (first | ((with_reducible refine gate_builtin (b := .append) (xs := #[.tmp 66, .tmp 79]) rfl ?_); at_builtin; refine Kd.R_append k67 (w0 := w) w.heap.size rfl (.tmp 66) (.tmp 79) 65 67 (.agg #[(.int .i64 0), (.int .i64 0)]) 16 rfl Try.underlying65 info67 rfl (by decide) (by omega) u3 x3_3 (⟨wrap64 ((wrap64 (x60_3 * (wrap64 (a0_1 + 1)))) + x53_2), wrap64 ((wrap64 ((wrap64 (x60_3 + 1)) * (wrap64 (a0_1 + 1)))) + x53_2)⟩ : S67) [.int .i64 (wrap64 ((wrap64 (x60_3 * (wrap64 (a0_1 + 1)))) + x53_2)), .int .i64 (wrap64 ((wrap64 ((wrap64 (x60_3 + 1)) * (wrap64 (a0_1 + 1)))) + x53_2))] (fun _ => True) (fun _ => False) rfl rfl ?aP (fun _ hk => hk.elim) ?aF ?aO ?aB ?aS ?aL ?_; (case aP => exact k67_mkM _ _ _ (⟨wrap64 ((wrap64 (x60_3 * (wrap64 (a0_1 + 1)))) + x53_2), wrap64 ((wrap64 ((wrap64 (x60_3 + 1)) * (wrap64 (a0_1 + 1)))) + x53_2)⟩ : S67)); (case aB => exact (by repeat (first | (with_reducible first | exact HB.out | apply below_alloc | apply pw_below_drewN | apply below_drew1 | refine below_set ?_ GE321.out) | exact HB.out))); (case aF => exact (fun _ _ => trivial)); (case aO => exact (by (with_reducible repeat (first | apply Kd.R_alloc | apply Kd.R_drewN | apply Kd.R_drew)); exact HO_3.out)); (case aS => exact (below_size (by repeat (first | (with_reducible first | exact HB.out | apply below_alloc | apply pw_below_drewN | apply below_drew1 | refine below_set ?_ GE321.out) | exact HB.out)))); (case aL => have := LMc25.out; omega); intro v333 w26 ho hb hg hat; rw [← Ny332.out] at ho; have n0_ := asd (blk_grown (g := gb321) (o := .cells #[.int .i64 a0_0, .int .i64 a0_1, .slice A0_2 l0_2.length c0_2, .slice (some ad330) l0_3.length c0_3] 25 (0, 0)) (by (with_reducible repeat (first | refine blk_drewN ?_ _ | refine blk_drew ?_ | refine blk_alloc ?_ _)); exact BK321.out) hg (Kd.R_ne HO_3.out BK321.out (by decide))); have n1_ := asd (hb); have n2_ := asd (ho); clear BK321 HB HO_3; have BK321 := n0_; have HB := n1_; have HO334 := n2_; clear n0_ n1_ n2_; clear ho hb hg hat))
                go_roundg k3
                case measure => have := HK1.out; have := HK2.out; have := HK3.out; omega
                case rel => exact ⟨(y332), (wrap64 (x60_3 + 1)), (by first | rfl | (simp; done) | (simp [*]; done)), H', ⟨by have := HK1.out; have := HK2.out; have := HK3.out; omega⟩, ⟨by (with_reducible repeat (first | apply Kd.R_alloc | apply Kd.R_drewN | apply Kd.R_drew)); exact HO334.out⟩, ⟨by (with_reducible repeat (first | refine blk_drewN ?_ _ | refine blk_drew ?_ | refine blk_alloc ?_ _)); exact BK321.out⟩, ⟨by repeat (first | (with_reducible first | exact HB.out | apply below_alloc | apply pw_below_drewN | apply below_drew1 | refine below_set ?_ GE321.out) | exact HB.out)⟩⟩
               ·rw [if_neg c25] at H
                exact absurd H (by simp)
              ·replace c24 := Bool.eq_false_iff.mpr c24
               subst c24
               have H1 : (impl_edgesOf.l3 k3 x3_3 (wrap64 (a0_1 + 1)) x53_2 l0_3 (l0_3.length : Int) x53_2 (rd_L1 l0_3 x53_2) ((rd_L1 l0_3 x53_2).length : Int) (wrap64 (x60_3 + 1))) = some r := by rw [if_neg (show ¬ (false = true) by decide)] at H; exact H
               clear H
               have H := H1
               clear H1
               have H' := asd H
               clear H
               have p331 : 0 ≤ (x60_3 : Int) := of_decide_eq_true (by first | (with_reducible assumption) | assumption)
               have q331 : x60_3 < ((rd_L1 l0_3 x53_2).length : Int) := of_decide_eq_true (by first | (with_reducible assumption) | assumption)
               obtain ⟨ad331, e331, hx331_0⟩ := Kd.at_bool HR330_0.out x60_3 p331 q331
               (try rw [← Nbq23.out] at hx331_0)
               cases e331
               replace hx331_0 := (HB.out.cell (World.block_lt_of_cell? w _ hx331_0)).trans hx331_0
               replace p331 := eq_true p331
               replace q331 := eq_true q331
               go_wp2
               go_roundg k3
               case measure => have := HK1.out; have := HK2.out; have := HK3.out; omega
               case rel => exact ⟨(x3_3), (wrap64 (x60_3 + 1)), (by first | rfl | (simp; done) | (simp [*]; done)), H', ⟨by have := HK1.out; have := HK2.out; have := HK3.out; omega⟩, ⟨by (with_reducible repeat (first | apply Kd.R_alloc | apply Kd.R_drewN | apply Kd.R_drew)); exact HO_3.out⟩, ⟨by (with_reducible repeat (first | refine blk_drewN ?_ _ | refine blk_drew ?_ | refine blk_alloc ?_ _)); exact BK321.out⟩, ⟨by repeat (first | (with_reducible first | exact HB.out | apply below_alloc | apply pw_below_drewN | apply below_drew1 | refine below_set ?_ GE321.out) | exact HB.out)⟩⟩
             ·rw [if_neg c22] at H
              exact absurd H (by simp)
            ·rw [if_neg c21] at H
             exact absurd H (by simp)
           ·rw [if_neg c20] at H
            have c20b0 : decide (x60_3 < ((rd_L1 l0_3 x53_2).length : Int)) = false := decide_eq_false c20
            clear c20
            have H' := asd H
            clear H
            go_wp2
            go_roundg k3
            case measure => have := HK1.out; have := HK2.out; have := HK3.out; omega
            case rel => exact ⟨(x3_3), (wrap64 (x53_2 + 1)), (by first | rfl | (simp; done) | (simp [*]; done)), H', ⟨by have := HK1.out; have := HK2.out; have := HK3.out; omega⟩, ⟨by (with_reducible repeat (first | apply Kd.R_alloc | apply Kd.R_drewN | apply Kd.R_drew)); exact HO_3.out⟩, ⟨by (with_reducible repeat (first | refine blk_drewN ?_ _ | refine blk_drew ?_ | refine blk_alloc ?_ _)); exact BK321.out⟩, ⟨by repeat (first | (with_reducible first | exact HB.out | apply below_alloc | apply pw_below_drewN | apply below_drew1 | refine below_set ?_ GE321.out) | exact HB.out)⟩⟩
        ·rw [if_neg c19] at H
         exact absurd H (by simp)
       ·rw [if_neg c18] at H
        exact absurd H (by simp)
      ·rw [if_neg c17] at H
       have c17b0 : decide (x53_2 < (l0_3.length : Int)) = false := decide_eq_false c17
       clear c17
       obtain rfl := Option.some.inj H
       go_wp2
       go_ret
       exact ⟨_, by first | rfl | (simp [errW_none, errW_some] <;> rfl) | (simp [*, errW_none, errW_some] <;> rfl), by (with_reducible repeat (first | apply Kd.R_alloc | apply Kd.R_drewN | apply Kd.R_drew)); exact HO_3.out, by repeat (first | (with_reducible first | exact HB.out | apply below_alloc | apply pw_below_drewN | apply below_drew1 | refine below_set ?_ GE321.out) | exact HB.out)⟩

end Go.Proofs.Ytncmneliinbjdaa.PMk
