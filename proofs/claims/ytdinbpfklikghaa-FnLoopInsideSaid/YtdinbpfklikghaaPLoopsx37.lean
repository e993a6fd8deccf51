/- Functions of the program, and what a call comes to. No conditions. -/
import Derived.Test.YtdinbpfklikghaaPLoopsx0
namespace Go.Proofs.Ytdinbpfklikghaa.PLoops
open Go.RowKit Go.Proofs.YtdinbpfklikghaaW.PrintWords Go.Proofs.YtdinbpfklikghaaW.PrintLast Go.Proofs.YtdinbpfklikghaaW.PrintMore
set_option linter.unusedVariables false
set_option linter.unusedSimpArgs false

/-! ### impl_LoopAround: function 40 -/
/-- Is a cell inside? (the closure) -/
def impl_LoopAround.g (a0 a1 : Int) (l2 : List Bool) (r c : Int) : Option Bool := if 0 ≤ r then (if r < a0 then (if 0 ≤ c then (if c < a1 then (if 0 ≤ (wrap64 ((wrap64 (r * a1)) + c)) then (if (wrap64 ((wrap64 (r * a1)) + c)) < (l2.length : Int) then (some (rdOf false l2 (wrap64 ((wrap64 (r * a1)) + c)))) else (none)) else (none)) else (some false)) else (some false)) else (some false)) else (some false)
mutual
def impl_LoopAround.l0 : Nat → Int → Int → List Bool → Int → List (List Bool) → Option (Int × Int × (List (List Bool)) × (List (List Bool)))
 | 0, _, _, _, _, _ => none
 | k + 1, a0, a1, l2, x44, xs => if x44 < wrap64 (a0 + 1) then (impl_LoopAround.l1 k a0 a1 l2 x44 [] 0 xs) else (impl_LoopAround.l2 k a0 a1 l2 0 xs [])
def impl_LoopAround.l1 : Nat → Int → Int → List Bool → Int → List Bool → Int → List (List Bool) → Option (Int × Int × (List (List Bool)) × (List (List Bool)))
 | 0, _, _, _, _, _, _, _ => none
 | k + 1, a0, a1, l2, x44, x10, x49, xs => if x49 < a1 then ((impl_LoopAround.g a0 a1 l2 (wrap64 (x44 - 1)) x49).bind fun t => ((impl_LoopAround.g a0 a1 l2 x44 x49).bind fun t' => (if x10.length < 140737488355328 then (impl_LoopAround.l1 k a0 a1 l2 x44 (x10 ++ [t != t']) (wrap64 (x49 + 1)) xs) else (none)))) else (if xs.length < 5864062014805 then (impl_LoopAround.l0 k a0 a1 l2 (wrap64 (x44 + 1)) (xs ++ [x10])) else (none))
def impl_LoopAround.l2 : Nat → Int → Int → List Bool → Int → List (List Bool) → List (List Bool) → Option (Int × Int × (List (List Bool)) × (List (List Bool)))
 | 0, _, _, _, _, _, _ => none
 | k + 1, a0, a1, l2, x75, ys, xs => if x75 < wrap64 (a1 + 1) then (impl_LoopAround.l3 k a0 a1 l2 x75 [] 0 ys xs) else (some (a0, a1, ys, xs))
def impl_LoopAround.l3 : Nat → Int → Int → List Bool → Int → List Bool → Int → List (List Bool) → List (List Bool) → Option (Int × Int × (List (List Bool)) × (List (List Bool)))
 | 0, _, _, _, _, _, _, _, _ => none
 | k + 1, a0, a1, l2, x75, x13, x80, ys, xs => if x80 < a0 then ((impl_LoopAround.g a0 a1 l2 x80 (wrap64 (x75 - 1))).bind fun t => ((impl_LoopAround.g a0 a1 l2 x80 x75).bind fun t' => (if x13.length < 140737488355328 then (impl_LoopAround.l3 k a0 a1 l2 x75 (x13 ++ [t != t']) (wrap64 (x80 + 1)) ys xs) else (none)))) else (if xs.length < 5864062014805 then (impl_LoopAround.l2 k a0 a1 l2 (wrap64 (x75 + 1)) ys (xs ++ [x13])) else (none))
end
def impl_LoopAround.bad (a0 a1 : Int) (l2 : List Bool) : Bool := if a0 < 1 then true else (if a0 > 4 then true else (if a1 < 1 then true else (if a1 > 4 then true else ((l2.length : Int) != wrap64 (a0 * a1)))))
def impl_LoopAround.f (k : Nat) (a0 : Int) (a1 : Int) (l2 : List Bool) : Option (Int × Int × (List (List Bool)) × (List (List Bool))) := if impl_LoopAround.bad a0 a1 l2 = true then (some (0, 0, [], [])) else (impl_LoopAround.l0 k a0 a1 l2 0 [])
theorem impl_LoopAround.mono_l : ∀ k, (∀ y0 y1 y2 y3 y4, LeO (impl_LoopAround.l0 k y0 y1 y2 y3 y4) (impl_LoopAround.l0 (k + 1) y0 y1 y2 y3 y4)) ∧ (∀ y0 y1 y2 y3 y4 y5 y6, LeO (impl_LoopAround.l1 k y0 y1 y2 y3 y4 y5 y6) (impl_LoopAround.l1 (k + 1) y0 y1 y2 y3 y4 y5 y6)) ∧ (∀ y0 y1 y2 y3 y4 y5, LeO (impl_LoopAround.l2 k y0 y1 y2 y3 y4 y5) (impl_LoopAround.l2 (k + 1) y0 y1 y2 y3 y4 y5)) ∧ (∀ y0 y1 y2 y3 y4 y5 y6 y7, LeO (impl_LoopAround.l3 k y0 y1 y2 y3 y4 y5 y6 y7) (impl_LoopAround.l3 (k + 1) y0 y1 y2 y3 y4 y5 y6 y7))
 | 0 => ⟨fun _ _ _ _ _ r h => by simp [impl_LoopAround.l0] at h, fun _ _ _ _ _ _ _ r h => by simp [impl_LoopAround.l1] at h, fun _ _ _ _ _ _ r h => by simp [impl_LoopAround.l2] at h, fun _ _ _ _ _ _ _ _ r h => by simp [impl_LoopAround.l3] at h⟩
 | k + 1 => by
  obtain ⟨ih0, ih1, ih2, ih3⟩ := impl_LoopAround.mono_l k
  refine ⟨?_, ?_, ?_, ?_⟩
  ·intro y0 y1 y2 y3 y4
   unfold impl_LoopAround.l0
   repeat' first | (with_reducible first | exact ih0 _ _ _ _ _ | exact ih1 _ _ _ _ _ _ _ | exact ih2 _ _ _ _ _ _ | exact ih3 _ _ _ _ _ _ _ _ | exact LeO.refl _ | refine LeO.ite ?_ ?_ | refine LeO.bind ?_ (fun _ => ?_))
  ·intro y0 y1 y2 y3 y4 y5 y6
   unfold impl_LoopAround.l1
   repeat' first | (with_reducible first | exact ih0 _ _ _ _ _ | exact ih1 _ _ _ _ _ _ _ | exact ih2 _ _ _ _ _ _ | exact ih3 _ _ _ _ _ _ _ _ | exact LeO.refl _ | refine LeO.ite ?_ ?_ | refine LeO.bind ?_ (fun _ => ?_))
  ·intro y0 y1 y2 y3 y4 y5
   unfold impl_LoopAround.l2
   repeat' first | (with_reducible first | exact ih0 _ _ _ _ _ | exact ih1 _ _ _ _ _ _ _ | exact ih2 _ _ _ _ _ _ | exact ih3 _ _ _ _ _ _ _ _ | exact LeO.refl _ | refine LeO.ite ?_ ?_ | refine LeO.bind ?_ (fun _ => ?_))
  ·intro y0 y1 y2 y3 y4 y5 y6 y7
   unfold impl_LoopAround.l3
   repeat' first | (with_reducible first | exact ih0 _ _ _ _ _ | exact ih1 _ _ _ _ _ _ _ | exact ih2 _ _ _ _ _ _ | exact ih3 _ _ _ _ _ _ _ _ | exact LeO.refl _ | refine LeO.ite ?_ ?_ | refine LeO.bind ?_ (fun _ => ?_))
theorem impl_LoopAround.mono : ∀ a0 a1 a2 k, LeO (impl_LoopAround.f k a0 a1 a2) (impl_LoopAround.f (k + 1) a0 a1 a2) := by
 intro a0 a1 a2 k
 obtain ⟨ih0, _, _, _⟩ := impl_LoopAround.mono_l k
 unfold impl_LoopAround.f
 exact LeO.ite (LeO.refl _) (ih0 _ _ _ _ _)
/-! What is kept while the field is built: block g alone of the elder ones is written. -/
structure Lak (W0 W : World) (g : Nat) (cs : Array Value) : Prop where
 keep : Below W0.heap.size W0 W
 blk : W.heap[g]? = some (.cells cs 27 (0, 0))
theorem Lak.grown {W0 W W1 : World} {g : Nat} {cs : Array Value} (h : Lak W0 W g cs) (hb : Below W0.heap.size W0 W1) {row : Option Nat} (hg : W.grownBy W1 row) (hne : some g ≠ row) : Lak W0 W1 g cs := ⟨hb, blk_grown h.blk hg hne⟩
theorem Lak.set_ {W0 W : World} {g : Nat} {cs cs' : Array Value} (h : Lak W0 W g cs) (hg : W0.heap.size ≤ g) (j : Nat) (u : Value) (e : cs.setIfInBounds j u = cs') : Lak W0 (W.setCell ⟨g, j, none⟩ u) g cs' :=
 ⟨below_set h.keep hg, blk_put h.blk j u e⟩
theorem Lak.cell {W0 W : World} {g g' : Nat} {cs : Array Value} {v : Value} {t : Nat} (h : Lak W0 W g cs) (hb : W0.heap[g']? = some (.cells #[v] t (0, 0))) : W.cell? ⟨g', 0, none⟩ = some v :=
 (blk_cell (blk_below hb h.keep) 0).trans rfl
theorem Lak.low {w W0 W : World} {g : Nat} {cs : Array Value} (h : Lak W0 W g cs) (hb : Below w.heap.size w W0) : Below w.heap.size w W := below_then hb hb.size h.keep
/-- The closure. -/
theorem impl_LoopAround_in (a0 a1 : Int) (A2 : Option Addr) (c2 : Nat) (l2 : List Bool) (r c : Int) (b : Bool) (g3 g4 g5 : Nat) (w : World) (h3 : w.cell? ⟨g3, 0, none⟩ = some (.int .i64 a0)) (h4 : w.cell? ⟨g4, 0, none⟩ = some (.int .i64 a1)) (h5 : w.cell? ⟨g5, 0, none⟩ = some (.slice A2 l2.length c2))
  (hr : Kd.C Kd.bool w A2 l2.length l2) (h : impl_LoopAround.g a0 a1 l2 r c = some b) :
  Calls Try.prog 87 #[.int .i64 r, .int .i64 c, .pointer (some ⟨g3, 0, none⟩), .pointer (some ⟨g4, 0, none⟩), .pointer (some ⟨g5, 0, none⟩)] w fun e w' => e = .returned (.bool b) ∧ w = w' := by
 have HR := asd hr
 clear hr
 unfold impl_LoopAround.g at h
 by_cases c1 : 0 ≤ r
 ·rw [if_pos c1] at h
  have d1 : decide (0 ≤ r) = true := decide_eq_true c1
  clear c1
  by_cases c2 : r < a0
  ·rw [if_pos c2] at h
   have d2 : decide (r < a0) = true := decide_eq_true c2
   clear c2
   by_cases c3 : 0 ≤ c
   ·rw [if_pos c3] at h
    have d3 : decide (0 ≤ c) = true := decide_eq_true c3
    clear c3
    by_cases c4 : c < a1
    ·rw [if_pos c4] at h
     have d4 : decide (c < a1) = true := decide_eq_true c4
     clear c4
     obtain ⟨i, hi⟩ : ∃ i : Int, i = wrap64 ((wrap64 (r * a1)) + c) := ⟨_, rfl⟩
     rw [← hi] at h
     by_cases c5 : 0 ≤ i
     ·rw [if_pos c5] at h
      by_cases c6 : i < (l2.length : Int)
      ·rw [if_pos c6] at h
       obtain rfl := Option.some.inj h
       clear h
       obtain ⟨ad, ea, hx⟩ := Kd.at_bool HR.out i c5 c6
       subst ea
       have p5 := eq_true c5
       have p6 := eq_true c6
       clear c5 c6
       subst hi
       go_enter Try.func87, Try.ntmps87
       go_wp2
       go_ret
       exact ⟨rfl, rfl⟩
      ·rw [if_neg c6] at h; cases h
     ·rw [if_neg c5] at h; cases h
    ·rw [if_neg c4] at h
     obtain rfl := Option.some.inj h
     have d4 : decide (c < a1) = false := decide_eq_false c4
     clear c4 h
     go_enter Try.func87, Try.ntmps87
     go_wp2
     go_ret
     exact ⟨rfl, rfl⟩
   ·rw [if_neg c3] at h
    obtain rfl := Option.some.inj h
    have d3 : decide (0 ≤ c) = false := decide_eq_false c3
    clear c3 h
    go_enter Try.func87, Try.ntmps87
    go_wp2
    go_ret
    exact ⟨rfl, rfl⟩
  ·rw [if_neg c2] at h
   obtain rfl := Option.some.inj h
   have d2 : decide (r < a0) = false := decide_eq_false c2
   clear c2 h
   go_enter Try.func87, Try.ntmps87
   go_wp2
   go_ret
   exact ⟨rfl, rfl⟩
 ·rw [if_neg c1] at h
  obtain rfl := Option.some.inj h
  have d1 : decide (0 ≤ r) = false := decide_eq_false c1
  clear c1 h
  go_enter Try.func87, Try.ntmps87
  go_wp2
  go_ret
  exact ⟨rfl, rfl⟩
set_option maxHeartbeats 8000000 in
set_option maxRecDepth 100000 in
theorem impl_LoopAround.calls (k : Nat) (a0 : Int) (a1 : Int) (A2 : Option Addr) (c2 : Nat) (l2 : List Bool) (r1 : Int) (r2 : Int) (r3 : List (List Bool)) (r4 : List (List Bool)) (w : World) (hr2 : Kd.C Kd.bool w A2 l2.length l2) (hc2 : l2.length ≤ c2) (h : impl_LoopAround.f k a0 a1 l2 = some (r1, r2, r3, r4)) :
  Calls Try.prog 40 #[.int .i64 a0, .int .i64 a1, .slice A2 l2.length c2] w fun e w' => ∃ v2_ v3_ : Value, e = .returned (.agg #[.int .i64 r1, .int .i64 r2, v2_, v3_]) ∧ Kd.S (Kd.slice 4 Kd.bool) 45 w' w.heap.size (fun k_ => some k_ ≠ (v3_ : Value).ownBlock) v2_ r3 ∧ Kd.S (Kd.slice 4 Kd.bool) 45 w' w.heap.size (fun k_ => some k_ ≠ (v2_ : Value).ownBlock) v3_ r4 ∧ Below w.heap.size w w' := by
 have hu40 := Try.underlying27
 have HR2 := asd hr2
 clear hr2
 have H := asd h
 clear h
 have hmf : ∀ (fn : Fn) (first cap : Array Value) (w : World), (Instr.makeFunc fn first cap).run Try.prog w = .ok (.func fn first cap) w := fun _ _ _ _ => rfl
 go_enter Try.func40, Try.ntmps40
 go_upto_region 1 with (first | ((with_reducible refine gate_dst (N := 3) rfl ?_); refine box_event ?hg (N := 3) ?hd (cs := #[.int .i64 a0]) (t := 3) ?hr ?_; (case hd => rfl); (case hg => rfl); (case hr => first | (go_simp; done) | (go_simp; rfl)); intro g3 e3 w3 b3 n3; have E3 := asd e3; have B3 := asd b3; have N3 := asd n3; clear e3 b3 n3) | ((with_reducible refine gate_dst (N := 4) rfl ?_); refine box_event ?hg2 (N := 4) ?hd2 (cs := #[.int .i64 a1]) (t := 3) ?hr2 ?_; (case hd2 => rfl); (case hg2 => rfl); (case hr2 => first | (go_simp; done) | (go_simp; rfl)); intro g4 e4 w4 b4 n4; have E4 := asd e4; have B4 := asd b4; have N4 := asd n4; clear e4 b4 n4) | ((with_reducible refine gate_dst (N := 5) rfl ?_); refine box_event ?hg3 (N := 5) ?hd3 (cs := #[.slice A2 l2.length c2]) (t := 45) ?hr3 ?_; (case hd3 => rfl); (case hg3 => rfl); (case hr3 => first | (go_simp; done) | (go_simp; rfl)); intro g5 e5 w5 b5 n5; have E5 := asd e5; have B5 := asd b5; have N5 := asd n5; clear e5 b5 n5) | ((with_reducible refine gate_dst (N := 6) rfl ?_); refine box_event ?hg4 (N := 6) ?hd4 (cs := #[.int .i64 0, .int .i64 0, .slice none 0 0, .slice none 0 0]) (t := 27) ?hr4 ?_; (case hd4 => rfl); (case hg4 => rfl); (case hr4 => first | (go_simp; done) | (go_simp; rfl)); intro g6 e6 w6 b6 n6; have E6 := asd e6; have B6 := asd b6; have N6 := asd n6; clear e6 b6 n6))
 have HZ := asd (show w.heap.size ≤ w6.heap.size ∧ g3 < g6 ∧ g4 < g6 ∧ g5 < g6 ∧ g6 < w6.heap.size ∧ w.heap.size ≤ g6 by
  have s3 := N3.out.size; have s4 := N4.out.size; have s5 := N5.out.size; have s6 := N6.out.size
  have l3 := blk_lt B3.out; have l4 := blk_lt B4.out; have l5 := blk_lt B5.out; have l6 := blk_lt B6.out
  have h3 := E3.out; have h4 := E4.out; have h5 := E5.out; have h6 := E6.out
  omega)
 have HB := asd (show Below w.heap.size w w6 by
  have s3 := N3.out.size; have s4 := N4.out.size; have s5 := N5.out.size
  exact below_then (below_then (below_then N3.out s3 N4.out) (by omega) N5.out) (by omega) N6.out)
 have D3 := asd (blk_below (blk_below (blk_below B3.out N4.out) N5.out) N6.out)
 have D4 := asd (blk_below (blk_below B4.out N5.out) N6.out)
 have D5 := asd (blk_below B5.out N6.out)
 clear E3 E4 E5 E6 N3 N4 N5 N6 B3 B4 B5
 have hc3 : w6.cell? ⟨g3, 0, none⟩ = some (.int .i64 a0) := (blk_cell D3.out 0).trans rfl
 have hc4 : w6.cell? ⟨g4, 0, none⟩ = some (.int .i64 a1) := (blk_cell D4.out 0).trans rfl
 have hc5 : w6.cell? ⟨g5, 0, none⟩ = some (.slice A2 l2.length c2) := (blk_cell D5.out 0).trans rfl
 (try simp only [Act.put, List.setIfInBounds_toArray, List.set_cons_zero, List.set_cons_succ])
 go_cut [36] (fun v36 wc => ∃ b36 : Bool, v36 = .bool b36 ∧ Aside0 (b36 = impl_LoopAround.bad a0 a1 l2) ∧ w6 = wc)
 case first =>
  by_cases c1 : a0 < 1
  ·have d1 : decide (a0 < 1) = true := decide_eq_true c1
   have HE := asd (show true = impl_LoopAround.bad a0 a1 l2 by unfold impl_LoopAround.bad; rw [if_pos c1])
   clear c1
   go_wp2
   go_meet
   case rel => exact ⟨_, rfl, HE, rfl⟩
  ·have d1 : decide (a0 < 1) = false := decide_eq_false c1
   by_cases c2 : a0 > 4
   ·have d2 : decide (4 < a0) = true := decide_eq_true c2
    have HE := asd (show true = impl_LoopAround.bad a0 a1 l2 by unfold impl_LoopAround.bad; rw [if_neg c1, if_pos c2])
    clear c1 c2
    go_wp2
    go_meet
    case rel => exact ⟨_, rfl, HE, rfl⟩
   ·have d2 : decide (4 < a0) = false := decide_eq_false c2
    by_cases c3 : a1 < 1
    ·have d3 : decide (a1 < 1) = true := decide_eq_true c3
     have HE := asd (show true = impl_LoopAround.bad a0 a1 l2 by unfold impl_LoopAround.bad; rw [if_neg c1, if_neg c2, if_pos c3])
     clear c1 c2 c3
     go_wp2
     go_meet
     case rel => exact ⟨_, rfl, HE, rfl⟩
    ·have d3 : decide (a1 < 1) = false := decide_eq_false c3
     by_cases c4 : a1 > 4
     ·have d4 : decide (4 < a1) = true := decide_eq_true c4
      have HE := asd (show true = impl_LoopAround.bad a0 a1 l2 by unfold impl_LoopAround.bad; rw [if_neg c1, if_neg c2, if_neg c3, if_pos c4])
      clear c1 c2 c3 c4
      go_wp2
      go_meet
      case rel => exact ⟨_, rfl, HE, rfl⟩
     ·have d4 : decide (4 < a1) = false := decide_eq_false c4
      have HE := asd (show ((l2.length : Int) != wrap64 (a0 * a1)) = impl_LoopAround.bad a0 a1 l2 by unfold impl_LoopAround.bad; rw [if_neg c1, if_neg c2, if_neg c3, if_neg c4])
      clear c1 c2 c3 c4
      go_wp2
      go_meet
      case rel => exact ⟨_, rfl, HE, rfl⟩
 case rest =>
  obtain ⟨b36, rfl, hbad, rfl⟩ := hcut
  have H' := H.out
  clear H
  unfold impl_LoopAround.f at H'
  rw [← hbad.out] at H'
  clear hbad
  cases b36 with
  | true =>
   rw [if_pos rfl] at H'
   simp only [Option.some.injEq, Prod.mk.injEq] at H'
   obtain ⟨rfl, rfl, rfl, rfl⟩ := H'
   clear hc3 hc4 hc5
   have hcz0 : w6.cell? ⟨g6, 0, none⟩ = some (.int .i64 0) := (blk_cell B6.out 0).trans rfl
   have hcz1 : w6.cell? ⟨g6, 1, none⟩ = some (.int .i64 0) := (blk_cell B6.out 1).trans rfl
   have hcz2 : w6.cell? ⟨g6, 2, none⟩ = some (.slice none 0 0) := (blk_cell B6.out 2).trans rfl
   have hcz3 : w6.cell? ⟨g6, 3, none⟩ = some (.slice none 0 0) := (blk_cell B6.out 3).trans rfl
   have hfz0 := blk_frozen B6.out 0
   have hfz1 := blk_frozen B6.out 1
   have hfz2 := blk_frozen B6.out 2
   have hfz3 := blk_frozen B6.out 3
   go_wp2
   refine bodyPost_ret (results_cell_row rfl _ _ g6 27 #[.int .i64 0, .int .i64 0, .slice none 0 0, .slice none 0 0] (0, 0) _ rfl (by refine blk_put (cs := #[.int .i64 0, .int .i64 0, .slice none 0 0, .slice none 0 0]) ?_ 3 _ rfl; refine blk_put (cs := #[.int .i64 0, .int .i64 0, .slice none 0 0, .slice none 0 0]) ?_ 2 _ rfl; refine blk_put (cs := #[.int .i64 0, .int .i64 0, .slice none 0 0, .slice none 0 0]) ?_ 1 _ rfl; refine blk_put (cs := #[.int .i64 0, .int .i64 0, .slice none 0 0, .slice none 0 0]) ?_ 0 _ rfl; exact B6.out) hu40 rfl (by kernel_rfl)) rfl ?_
   exact ⟨_, _, rfl, Kd.S_nil _ _ _ _ _, Kd.S_nil _ _ _ _ _, below_set (below_set (below_set (below_set HB.out HZ.out.2.2.2.2.2) HZ.out.2.2.2.2.2) HZ.out.2.2.2.2.2) HZ.out.2.2.2.2.2⟩
  | false =>
   rw [if_neg (by simp)] at H'
   have H := asd H'
   clear H'
   go_wp2_with (first | ((with_reducible refine gate_dst (N := 8) rfl ?_); refine box_event ?hg (N := 8) ?hd (cs := #[.int .i64 0, .int .i64 0, .slice none 0 0, .slice none 0 0]) (t := 27) ?hr ?_; (case hd => rfl); (case hg => rfl); (case hr => first | (go_simp; done) | (go_simp; rfl)); intro g8 e8 w8 b8 n8; have E8 := asd e8; have B8 := asd b8; have N8 := asd n8; clear e8 b8 n8; have hcz0 : w8.cell? ⟨g8, 0, none⟩ = some (.int .i64 0) := (blk_cell B8.out 0).trans rfl; have hcz1 : w8.cell? ⟨g8, 1, none⟩ = some (.int .i64 0) := (blk_cell B8.out 1).trans rfl; have hcz2 : w8.cell? ⟨g8, 2, none⟩ = some (.slice none 0 0) := (blk_cell B8.out 2).trans rfl; have hcz3 : w8.cell? ⟨g8, 3, none⟩ = some (.slice none 0 0) := (blk_cell B8.out 3).trans rfl; have hfz0 := blk_frozen B8.out 0; have hfz1 := blk_frozen B8.out 1; have hfz2 := blk_frozen B8.out 2; have hfz3 := blk_frozen B8.out 3) | ((with_reducible refine gate_store (t := 27) (p := 8) rfl ?_); refine store_event (t := 27) (p := 8) (v := ?vo) (w1 := ((((w8.setCell ⟨g8, 0, none⟩ (.int .i64 a0)).setCell ⟨g8, 1, none⟩ (.int .i64 a1)).setCell ⟨g8, 2, none⟩ (.slice none 0 0)).setCell ⟨g8, 3, none⟩ (.slice none 0 0))) ?hgs ?hos ?hns ?hrs ?_; (case hos => rfl); (case hgs => rfl); (case hns => rfl); (case hrs => first | (go_simp; done) | (go_simp; rfl)); intro w9 hw; have HW := asd hw; clear hw hcz0 hcz1 hcz2 hcz3 hfz0 hfz1 hfz2 hfz3 hc3 hc4 hc5; have T1 := asd (show w9.heap[g8]? = some (.cells #[.int .i64 a0, .int .i64 a1, .slice none 0 0, .slice none 0 0] 27 (0, 0)) by rw [HW.out]; refine blk_put (cs := #[.int .i64 a0, .int .i64 a1, .slice none 0 0, .slice none 0 0]) ?_ 3 _ rfl; refine blk_put (cs := #[.int .i64 a0, .int .i64 a1, .slice none 0 0, .slice none 0 0]) ?_ 2 _ rfl; refine blk_put (cs := #[.int .i64 a0, .int .i64 0, .slice none 0 0, .slice none 0 0]) ?_ 1 _ rfl; refine blk_put (cs := #[.int .i64 0, .int .i64 0, .slice none 0 0, .slice none 0 0]) ?_ 0 _ rfl; exact B8.out); have K9 := asd (show Below w6.heap.size w6 w9 by rw [HW.out]; exact below_set (below_set (below_set (below_set N8.out (by rw [E8.out]; exact Nat.le_refl _)) (by rw [E8.out]; exact Nat.le_refl _)) (by rw [E8.out]; exact Nat.le_refl _)) (by rw [E8.out]; exact Nat.le_refl _)); have hc3 : w9.cell? ⟨g3, 0, none⟩ = some (.int .i64 a0) := (blk_cell (blk_below D3.out K9.out) 0).trans rfl; clear HW))
   have L := asd (Lak.mk K9.out T1.out)
   have G8 := asd (show w6.heap.size ≤ g8 by rw [E8.out]; exact Nat.le_refl _)
   have HS := asd (Kd.S_nil (Kd.slice 4 Kd.bool) 45 w9 w6.heap.size (fun _ => True))
   clear K9 T1 E8 B8 N8 hc3
   go_loopg [44] k (fun kq v44 W => ∃ (x44 : Int) (xs : List (List Bool)) (u : Value), v44 = .int .i64 x44 ∧ Aside0 (impl_LoopAround.l0 kq a0 a1 l2 x44 xs = some (r1, r2, r3, r4)) ∧ Aside0 (kq ≤ k) ∧ Aside0 (Lak w6 W g8 #[.int .i64 a0, .int .i64 a1, u, .slice none 0 0]) ∧ Aside0 (Kd.S (Kd.slice 4 Kd.bool) 45 W w6.heap.size (fun _ => True) u xs))
   case atStart => exact ⟨0, [], .slice none 0 0, rfl, H, ⟨Nat.le_refl _⟩, L, HS⟩
   case round =>
    clear H L HS
    obtain ⟨x44, xs, u, rfl, HA, HK1, L, HS⟩ := hrel
    cases gk with
    | zero => exact absurd HA.out (by simp [impl_LoopAround.l0])
    | succ k1 =>
     have H := HA.out
     clear HA
     simp only [impl_LoopAround.l0] at H
     by_cases c5 : x44 < wrap64 (a0 + 1)
     ·rw [if_pos c5] at H
      have d5 : decide (x44 < wrap64 (a0 + 1)) = true := decide_eq_true c5
      clear c5
      have H' := asd H
      clear H
      have hc4 := L.out.cell D4.out
      go_wp2_with (first | ((with_reducible refine gate_dst (N := 47) rfl ?_); refine Kd.R_lit Kd.bool w6.heap.size 4 ?hg (N := 47) ?hd (xs := ([] : List Bool)) (inner := []) (ok := fun _ => True) (okp := fun _ => True) ?hr ?hp (fun _ hk => hk) trivial L.out.keep L.out.keep.size (by simp) ?_; (case hd => rfl); (case hg => rfl); (case hr => first | (go_simp; done) | (go_simp; rfl)); (case hp => exact (Reps.none _ _)); intro v10 w10 ho hb hg hnew; have n0_ := asd ho; have n1_ := asd (L.out.grown hb hg (by simp)); have n2_ := asd (show Kd.S (Kd.slice 4 Kd.bool) 45 w10 w6.heap.size (fun k_ => True ∧ some k_ ≠ (v10 : Value).ownBlock) u xs by obtain ⟨b_, eb, hb_⟩ := hnew; exact Kd.S_grown (Kd.S_mono (Kd.S_bound HS.out) (fun k_ hk_ => ⟨trivial, by rw [eb]; intro e_; injection e_ with e_; omega⟩)) hg (by simp)); clear L HS ho hb hg hnew hc4; have HO := n0_; have L := n1_; have HS := n2_; clear n0_ n1_ n2_; have hc4 := L.out.cell D4.out))
      go_loopg [10, 49] k1 (fun kq v10 v49 W => ∃ (x10 : List Bool) (x49 : Int), v49 = .int .i64 x49 ∧ Aside0 (impl_LoopAround.l1 kq a0 a1 l2 x44 x10 x49 xs = some (r1, r2, r3, r4)) ∧ Aside0 (kq ≤ k1) ∧ Aside0 (Kd.R Kd.bool 4 W w6.heap.size (fun k_ => True) v10 x10) ∧ Aside0 (Lak w6 W g8 #[.int .i64 a0, .int .i64 a1, u, .slice none 0 0]) ∧ Aside0 (Kd.S (Kd.slice 4 Kd.bool) 45 W w6.heap.size (fun k_ => True ∧ some k_ ≠ (v10 : Value).ownBlock) u xs))
      case atStart => exact ⟨[], 0, rfl, H', ⟨Nat.le_refl _⟩, HO, L, HS⟩
      case round =>
       clear H' HO L HS hc4
       obtain ⟨x10, x49, rfl, HA, HK2, HO, L, HS⟩ := hrel
       cases gk with
       | zero => exact absurd HA.out (by simp [impl_LoopAround.l1])
       | succ k2 =>
        have H := HA.out
        clear HA
        simp only [impl_LoopAround.l1] at H
        by_cases c6 : x49 < a1
        ·rw [if_pos c6] at H
         have d6 : decide (x49 < a1) = true := decide_eq_true c6
         clear c6
         obtain ⟨t, A10, H⟩ := Option.bind_eq_some_iff.mp H
         obtain ⟨t', A20, H⟩ := Option.bind_eq_some_iff.mp H
         by_cases c7 : x10.length < 140737488355328
         ·rw [if_pos c7] at H
          have LM := asd c7
          clear c7
          have A1 := asd A10
          have A2_ := asd A20
          clear A10 A20
          have H' := asd H
          clear H
          have HR := asd (Kd.C_below HR2.out (L.out.low HB.out))
          have hc3 := L.out.cell D3.out
          have hc4 := L.out.cell D4.out
          have hc5 := L.out.cell D5.out
          go_wp2_with (first | (go_at_call 87; (with_reducible refine (impl_LoopAround_in a0 a1 A2 c2 l2 (wrap64 (x44 - 1)) x49 t g3 g4 g5 _ hc3 hc4 hc5 HR.out A1.out).mono ?_); rintro e w' ⟨rfl, rfl⟩) | (go_at_call 87; (with_reducible refine (impl_LoopAround_in a0 a1 A2 c2 l2 x44 x49 t' g3 g4 g5 _ hc3 hc4 hc5 HR.out A2_.out).mono ?_); rintro e w' ⟨rfl, rfl⟩) | ((with_reducible refine gate_builtin (b := .append) (xs := #[.tmp 52, .tmp 63]) rfl ?_); at_builtin; refine Kd.R_append Kd.bool (w0 := w6) w6.heap.size rfl (.tmp 52) (.tmp 63) 45 4 (.bool false) 1 rfl Try.underlying45 info4 rfl (by decide) (by omega) u10 x10 (t != t') [.bool (t != t')] (fun k_ => True) (fun _ => False) rfl rfl ?aP (fun _ hk => hk.elim) ?aF ?aO ?aB ?aS ?aL ?_; (case aP => exact rfl); (case aB => exact L.out.keep); (case aF => exact (fun _ _ => trivial)); (case aO => exact HO.out); (case aS => exact L.out.keep.size); (case aL => have := LM.out; omega); intro v1 w1 ho hb hg hat; have n0_ := asd ho; have n1_ := asd (L.out.grown hb hg (Kd.R_ne HO.out L.out.blk (by decide))); have n2_ := asd (Kd.S_after (ok := fun k_ => True) HS.out hg hat); clear HO L HS ho hb hg hat hc3 hc4 hc5; have HO := n0_; have L := n1_; have HS := n2_; clear n0_ n1_ n2_; have hc3 := L.out.cell D3.out; have hc4 := L.out.cell D4.out))
          go_roundg k2
          case measure => have := HK2.out; omega
          case rel => exact ⟨_, _, rfl, H', ⟨by have := HK2.out; omega⟩, HO, L, HS⟩
         ·rw [if_neg c7] at H; cases H
        ·rw [if_neg c6] at H
         have d6 : decide (x49 < a1) = false := decide_eq_false c6
         clear c6
         by_cases c8 : xs.length < 5864062014805
         ·rw [if_pos c8] at H
          have LM := asd c8
          clear c8
          have H' := asd H
          clear H
          obtain ⟨ao, co, eo⟩ := Kd.R_slice HO.out
          subst eo
          have hz := (blk_cell L.out.blk 2).trans rfl
          go_wp2_with (first | ((with_reducible refine gate_builtin (b := .append) (xs := #[.tmp 67, .tmp 69]) rfl ?_); at_builtin; refine Kd.S_append (Kd.slice 4 Kd.bool) (w0 := w6) w6.heap.size rfl (.tmp 67) (.tmp 69) 22 45 (.slice none 0 0) 24 rfl Try.underlying22 info45 rfl (by decide) (by omega) u xs x10 [.slice ao x10.length co] (fun k_ => True) (fun k_ => some k_ = (.slice ao x10.length co : Value).ownBlock) rfl rfl ?aP (fun k_ hk_ => ⟨HO.out.1 k_ hk_.symm, fun e_ => ((Kd.S_R HS.out).1 k_ e_.symm).2 hk_⟩) ?aF ?aO ?aB ?aS ?aL ?_; (case aP => exact Kd.M_row (Kd.R_tight rfl HO.out)); (case aB => exact L.out.keep); (case aF => exact (fun _ _ => trivial)); (case aO => exact HS.out); (case aS => exact L.out.keep.size); (case aL => have := LM.out; omega); intro v1 w1 ho hb hg hat; have n0_ := asd ho; have n1_ := asd (L.out.grown hb hg (Kd.S_ne HS.out L.out.blk (by decide))); clear HO L HS ho hb hg hat hz; have HS := n0_; have L := n1_; clear n0_ n1_; obtain ⟨ao1, co1, eo1⟩ := Kd.S_slice HS.out; subst eo1; have hz := (blk_cell L.out.blk 2).trans rfl; have hf := blk_frozen L.out.blk 2))
          go_roundg k2
          case measure => have := HK1.out; have := HK2.out; omega
          case rel => exact ⟨_, xs ++ [x10], .slice ao1 (xs.length + 1) co1, rfl, H', ⟨by have := HK1.out; have := HK2.out; omega⟩, ⟨L.out.set_ G8.out 2 _ rfl⟩, ⟨by have h_ := Kd.S_set HS.out L.out.blk (by intro q hq; simp [Kd.slice, Kd.bool, Kd.scalar] at hq; omega) 2 (.slice ao1 (xs.length + 1) co1); rw [List.length_append] at h_; exact h_⟩⟩
         ·rw [if_neg c8] at H; cases H
     ·have hc4 := L.out.cell D4.out
      rw [if_neg c5] at H
      have d5 : decide (x44 < wrap64 (a0 + 1)) = false := decide_eq_false c5
      clear c5
      have H' := asd H
      clear H
      obtain ⟨ay, cy, ey⟩ := Kd.S_slice HS.out
      subst ey
      go_wp2
      obtain ⟨B, eB⟩ : ∃ B, B = wr.heap.size := ⟨_, rfl⟩
      have HY := asd (show Kd.S (Kd.slice 4 Kd.bool) 45 wr w6.heap.size (fun k_ => k_ < B) (.slice ay xs.length cy) xs from Kd.S_mono (Kd.S_bound HS.out) (fun k_ hk_ => by have := hk_.2.2.1; omega))
      have HS2 := asd (Kd.S_nil (Kd.slice 4 Kd.bool) 45 wr w6.heap.size (fun k_ => B ≤ k_))
      have BS := asd (show B ≤ wr.heap.size by omega)
      clear HS eB hc4
      go_loopg [75] k1 (fun kq v75 W => ∃ (x75 : Int) (ys : List (List Bool)) (u : Value), v75 = .int .i64 x75 ∧ Aside0 (impl_LoopAround.l2 kq a0 a1 l2 x75 xs ys = some (r1, r2, r3, r4)) ∧ Aside0 (kq ≤ k1) ∧ Aside0 (Lak w6 W g8 #[.int .i64 a0, .int .i64 a1, .slice ay xs.length cy, u]) ∧ Aside0 (Kd.S (Kd.slice 4 Kd.bool) 45 W w6.heap.size (fun k_ => B ≤ k_) u ys) ∧ Aside0 (Kd.S (Kd.slice 4 Kd.bool) 45 W w6.heap.size (fun k_ => k_ < B) (.slice ay xs.length cy) xs) ∧ Aside0 (B ≤ W.heap.size))
      case atStart => exact ⟨0, [], .slice none 0 0, rfl, H', ⟨Nat.le_refl _⟩, L, HS2, HY, BS⟩
      case round =>
       clear H' L HS2 HY BS HK1
       obtain ⟨x75, ys, u, rfl, HA, HK1, L, HS, HY, BS⟩ := hrel
       cases gk with
       | zero => exact absurd HA.out (by simp [impl_LoopAround.l2])
       | succ k1 =>
        have H := HA.out
        clear HA
        simp only [impl_LoopAround.l2] at H
        by_cases c5 : x75 < wrap64 (a1 + 1)
        ·rw [if_pos c5] at H
         have d5 : decide (x75 < wrap64 (a1 + 1)) = true := decide_eq_true c5
         clear c5
         have H' := asd H
         clear H
         have hc3 := L.out.cell D3.out
         go_wp2_with (first | ((with_reducible refine gate_dst (N := 78) rfl ?_); refine Kd.R_lit Kd.bool w6.heap.size 4 ?hg (N := 78) ?hd (xs := ([] : List Bool)) (inner := []) (ok := fun k_ => B ≤ k_) (okp := fun _ => False) ?hr ?hp (fun _ hk => hk.elim) BS.out L.out.keep L.out.keep.size (by simp) ?_; (case hd => rfl); (case hg => rfl); (case hr => first | (go_simp; done) | (go_simp; rfl)); (case hp => exact (Reps.none _ _)); intro v10 w10 ho hb hg hnew; have n0_ := asd ho; have n1_ := asd (L.out.grown hb hg (by simp)); have n2_ := asd (show Kd.S (Kd.slice 4 Kd.bool) 45 w10 w6.heap.size (fun k_ => B ≤ k_ ∧ some k_ ≠ (v10 : Value).ownBlock) u ys by obtain ⟨b_, eb, hb_⟩ := hnew; exact Kd.S_grown (Kd.S_mono (Kd.S_bound HS.out) (fun k_ hk_ => ⟨hk_.1, by rw [eb]; intro e_; injection e_ with e_; omega⟩)) hg (by simp)); have n3_ := asd (Kd.S_grown HY.out hg (by simp)); have n4_ := asd (Nat.le_trans BS.out hg.size); clear L HS HY BS ho hb hg hnew hc3; have HO := n0_; have L := n1_; have HS := n2_; have HY := n3_; have BS := n4_; clear n0_ n1_ n2_ n3_ n4_; have hc3 := L.out.cell D3.out))
         go_loopg [13, 80] k1 (fun kq v10 v49 W => ∃ (x10 : List Bool) (x49 : Int), v49 = .int .i64 x49 ∧ Aside0 (impl_LoopAround.l3 kq a0 a1 l2 x75 x10 x49 xs ys = some (r1, r2, r3, r4)) ∧ Aside0 (kq ≤ k1) ∧ Aside0 (Kd.R Kd.bool 4 W w6.heap.size (fun k_ => B ≤ k_) v10 x10) ∧ Aside0 (Lak w6 W g8 #[.int .i64 a0, .int .i64 a1, .slice ay xs.length cy, u]) ∧ Aside0 (Kd.S (Kd.slice 4 Kd.bool) 45 W w6.heap.size (fun k_ => B ≤ k_ ∧ some k_ ≠ (v10 : Value).ownBlock) u ys) ∧ Aside0 (Kd.S (Kd.slice 4 Kd.bool) 45 W w6.heap.size (fun k_ => k_ < B) (.slice ay xs.length cy) xs) ∧ Aside0 (B ≤ W.heap.size))
         case atStart => exact ⟨[], 0, rfl, H', ⟨Nat.le_refl _⟩, HO, L, HS, HY, BS⟩
         case round =>
          clear H' HO L HS HY BS hc3
          obtain ⟨x10, x49, rfl, HA, HK2, HO, L, HS, HY, BS⟩ := hrel
          cases gk with
          | zero => exact absurd HA.out (by simp [impl_LoopAround.l3])
          | succ k2 =>
           have H := HA.out
           clear HA
           simp only [impl_LoopAround.l3] at H
           by_cases c6 : x49 < a0
           ·rw [if_pos c6] at H
            have d6 : decide (x49 < a0) = true := decide_eq_true c6
            clear c6
            obtain ⟨t, A10, H⟩ := Option.bind_eq_some_iff.mp H
            obtain ⟨t', A20, H⟩ := Option.bind_eq_some_iff.mp H
            by_cases c7 : x10.length < 140737488355328
            ·rw [if_pos c7] at H
             have LM := asd c7
             clear c7
             have A1 := asd A10
             have A2_ := asd A20
             clear A10 A20
             have H' := asd H
             clear H
             have HR := asd (Kd.C_below HR2.out (L.out.low HB.out))
             have hc3 := L.out.cell D3.out
             have hc4 := L.out.cell D4.out
             have hc5 := L.out.cell D5.out
             go_wp2_with (first | (go_at_call 87; (with_reducible refine (impl_LoopAround_in a0 a1 A2 c2 l2 x49 (wrap64 (x75 - 1)) t g3 g4 g5 _ hc3 hc4 hc5 HR.out A1.out).mono ?_); rintro e w' ⟨rfl, rfl⟩) | (go_at_call 87; (with_reducible refine (impl_LoopAround_in a0 a1 A2 c2 l2 x49 x75 t' g3 g4 g5 _ hc3 hc4 hc5 HR.out A2_.out).mono ?_); rintro e w' ⟨rfl, rfl⟩) | ((with_reducible refine gate_builtin (b := .append) (xs := #[.tmp 83, .tmp 94]) rfl ?_); at_builtin; refine Kd.R_append Kd.bool (w0 := w6) w6.heap.size rfl (.tmp 83) (.tmp 94) 45 4 (.bool false) 1 rfl Try.underlying45 info4 rfl (by decide) (by omega) u13 x10 (t != t') [.bool (t != t')] (fun k_ => B ≤ k_) (fun _ => False) rfl rfl ?aP (fun _ hk => hk.elim) ?aF ?aO ?aB ?aS ?aL ?_; (case aP => exact rfl); (case aB => exact L.out.keep); (case aF => exact (fun k_ hk_ => Nat.le_trans BS.out hk_)); (case aO => exact HO.out); (case aS => exact L.out.keep.size); (case aL => have := LM.out; omega); intro v1 w1 ho hb hg hat; have n0_ := asd ho; have n1_ := asd (L.out.grown hb hg (Kd.R_ne HO.out L.out.blk (by decide))); have n2_ := asd (Kd.S_after (ok := fun k_ => B ≤ k_) HS.out hg hat); have n3_ := asd (Kd.S_grown HY.out hg (fun k_ hk_ e_ => Nat.not_le.2 hk_ (HO.out.1 k_ e_.symm))); have n4_ := asd (Nat.le_trans BS.out hg.size); clear HO L HS HY BS ho hb hg hat hc3 hc4 hc5; have HO := n0_; have L := n1_; have HS := n2_; have HY := n3_; have BS := n4_; clear n0_ n1_ n2_ n3_ n4_; have hc3 := L.out.cell D3.out; have hc4 := L.out.cell D4.out))
             go_roundg k2
             case measure => have := HK2.out; omega
             case rel => exact ⟨_, _, rfl, H', ⟨by have := HK2.out; omega⟩, HO, L, HS, HY, BS⟩
            ·rw [if_neg c7] at H; cases H
           ·rw [if_neg c6] at H
            have d6 : decide (x49 < a0) = false := decide_eq_false c6
            clear c6
            by_cases c8 : ys.length < 5864062014805
            ·rw [if_pos c8] at H
             have LM := asd c8
             clear c8
             have H' := asd H
             clear H
             obtain ⟨ao, co, eo⟩ := Kd.R_slice HO.out
             subst eo
             have hz := (blk_cell L.out.blk 3).trans rfl
             go_wp2_with (first | ((with_reducible refine gate_builtin (b := .append) (xs := #[.tmp 98, .tmp 100]) rfl ?_); at_builtin; refine Kd.S_append (Kd.slice 4 Kd.bool) (w0 := w6) w6.heap.size rfl (.tmp 98) (.tmp 100) 22 45 (.slice none 0 0) 24 rfl Try.underlying22 info45 rfl (by decide) (by omega) u ys x10 [.slice ao x10.length co] (fun k_ => B ≤ k_) (fun k_ => some k_ = (.slice ao x10.length co : Value).ownBlock) rfl rfl ?aP (fun k_ hk_ => ⟨HO.out.1 k_ hk_.symm, fun e_ => ((Kd.S_R HS.out).1 k_ e_.symm).2 hk_⟩) ?aF ?aO ?aB ?aS ?aL ?_; (case aP => exact Kd.M_row (Kd.R_tight rfl HO.out)); (case aB => exact L.out.keep); (case aF => exact (fun k_ hk_ => Nat.le_trans BS.out hk_)); (case aO => exact HS.out); (case aS => exact L.out.keep.size); (case aL => have := LM.out; omega); intro v1 w1 ho hb hg hat; have n0_ := asd ho; have n1_ := asd (L.out.grown hb hg (Kd.S_ne HS.out L.out.blk (by decide))); have n2_ := asd (Kd.S_grown HY.out hg (fun k_ hk_ e_ => Nat.not_le.2 hk_ ((Kd.S_R HS.out).1 k_ e_.symm).1)); have n3_ := asd (Nat.le_trans BS.out hg.size); clear HO L HS HY BS ho hb hg hat hz; have HS := n0_; have L := n1_; have HY := n2_; have BS := n3_; clear n0_ n1_ n2_ n3_; obtain ⟨ao1, co1, eo1⟩ := Kd.S_slice HS.out; subst eo1; have hz := (blk_cell L.out.blk 3).trans rfl; have hf := blk_frozen L.out.blk 3))
             go_roundg k2
             case measure => have := HK1.out; have := HK2.out; omega
             case rel => exact ⟨_, ys ++ [x10], .slice ao1 (ys.length + 1) co1, rfl, H', ⟨by have := HK1.out; have := HK2.out; omega⟩, ⟨L.out.set_ G8.out 3 _ rfl⟩, ⟨by have h_ := Kd.S_set HS.out L.out.blk (by intro q hq; simp [Kd.slice, Kd.bool, Kd.scalar] at hq; omega) 3 (.slice ao1 (ys.length + 1) co1); rw [List.length_append] at h_; exact h_⟩, ⟨Kd.S_set HY.out L.out.blk (by intro q hq; simp [Kd.slice, Kd.bool, Kd.scalar] at hq; omega) 3 _⟩, ⟨by simpa [World.setCell] using BS.out⟩⟩
            ·rw [if_neg c8] at H; cases H
        ·rw [if_neg c5] at H
         have d5 : decide (x75 < wrap64 (a1 + 1)) = false := decide_eq_false c5
         clear c5
         simp only [Option.some.injEq, Prod.mk.injEq] at H
         obtain ⟨rfl, rfl, rfl, rfl⟩ := H
         obtain ⟨az, cz, ez⟩ := Kd.S_slice HS.out
         subst ez
         have q0 : wr.cell? ⟨g8, 0, none⟩ = some (.int .i64 a0) := (blk_cell L.out.blk 0).trans rfl
         have q1 : wr.cell? ⟨g8, 1, none⟩ = some (.int .i64 a1) := (blk_cell L.out.blk 1).trans rfl
         have q2 : wr.cell? ⟨g8, 2, none⟩ = some (.slice ay xs.length cy) := (blk_cell L.out.blk 2).trans rfl
         have q3 : wr.cell? ⟨g8, 3, none⟩ = some (.slice az ys.length cz) := (blk_cell L.out.blk 3).trans rfl
         have E6 := asd (blk_below B6.out L.out.keep)
         have hcz0 : wr.cell? ⟨g6, 0, none⟩ = some (.int .i64 0) := (blk_cell E6.out 0).trans rfl
         have hcz1 : wr.cell? ⟨g6, 1, none⟩ = some (.int .i64 0) := (blk_cell E6.out 1).trans rfl
         have hcz2 : wr.cell? ⟨g6, 2, none⟩ = some (.slice none 0 0) := (blk_cell E6.out 2).trans rfl
         have hcz3 : wr.cell? ⟨g6, 3, none⟩ = some (.slice none 0 0) := (blk_cell E6.out 3).trans rfl
         have hfz0 := blk_frozen E6.out 0
         have hfz1 := blk_frozen E6.out 1
         have hfz2 := blk_frozen E6.out 2
         have hfz3 := blk_frozen E6.out 3
         have GE := asd (show w.heap.size ≤ g6 from HZ.out.2.2.2.2.2)
         go_wp2
         refine bodyPost_ret (results_cell_row rfl _ _ g6 27 #[.int .i64 a0, .int .i64 a1, .slice ay xs.length cy, .slice az ys.length cz] (0, 0) _ rfl (by refine blk_put (cs := #[.int .i64 a0, .int .i64 a1, .slice ay xs.length cy, .slice none 0 0]) ?_ 3 _ rfl; refine blk_put (cs := #[.int .i64 a0, .int .i64 a1, .slice none 0 0, .slice none 0 0]) ?_ 2 _ rfl; refine blk_put (cs := #[.int .i64 a0, .int .i64 0, .slice none 0 0, .slice none 0 0]) ?_ 1 _ rfl; refine blk_put (cs := #[.int .i64 0, .int .i64 0, .slice none 0 0, .slice none 0 0]) ?_ 0 _ rfl; exact E6.out) hu40 rfl (by kernel_rfl)) rfl ?_
         have hE : ∀ q, q ∈ 45 :: (Kd.slice 4 Kd.bool).E → q ≠ 27 := by intro q hq; simp [Kd.slice, Kd.bool, Kd.scalar] at hq; omega
         have s0 : w.heap.size ≤ w6.heap.size := HZ.out.1
         refine ⟨_, _, rfl, ?_, ?_, ?_⟩
         ·refine Kd.S_mono (Kd.S_lower (Kd.S_far (Kd.S_far (Kd.S_far (Kd.S_far (Kd.S_mono (Kd.S_bound HY.out) (ok' := fun k_ => k_ < B ∧ k_ ≠ g6) (fun k_ hk_ => ⟨hk_.1, by have := hk_.2.1; have := HZ.out; omega⟩)) (fun _ h_ => h_.2) _) (fun _ h_ => h_.2) _) (fun _ h_ => h_.2) _) (fun _ h_ => h_.2) _) s0) (fun k_ hk_ e_ => ?_)
          have := (Kd.S_R HS.out).1 k_ e_.symm
          have := hk_.1
          omega
         ·refine Kd.S_mono (Kd.S_lower (Kd.S_far (Kd.S_far (Kd.S_far (Kd.S_far (Kd.S_mono (Kd.S_bound HS.out) (ok' := fun k_ => B ≤ k_ ∧ k_ ≠ g6) (fun k_ hk_ => ⟨hk_.1, by have := hk_.2.1; have := HZ.out; omega⟩)) (fun _ h_ => h_.2) _) (fun _ h_ => h_.2) _) (fun _ h_ => h_.2) _) (fun _ h_ => h_.2) _) s0) (fun k_ hk_ e_ => ?_)
          have := (Kd.S_R HY.out).1 k_ e_.symm
          have := hk_.1
          omega
         ·exact below_set (below_set (below_set (below_set (L.out.low HB.out) GE.out) GE.out) GE.out) GE.out

end Go.Proofs.Ytdinbpfklikghaa.PLoops
