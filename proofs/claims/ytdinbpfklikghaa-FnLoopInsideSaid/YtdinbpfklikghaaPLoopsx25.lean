/- Functions of the program, and what a call comes to. No conditions. -/
import Derived.Test.YtdinbpfklikghaaPLoopsx0
import Derived.Test.YtdinbpfklikghaaPLoopsx13
namespace Go.Proofs.Ytdinbpfklikghaa.PLoops
open Go.RowKit Go.Proofs.YtdinbpfklikghaaW.PrintWords Go.Proofs.YtdinbpfklikghaaW.PrintLast Go.Proofs.YtdinbpfklikghaaW.PrintMore
set_option linter.unusedVariables false
set_option linter.unusedSimpArgs false

/-! ### spec_LoopAround: function 42 -/
/-- A cell's flag behind a test. -/
def spec_LoopAround.at_ (l2 : List Bool) (c : Bool) (i : Int) : Option Bool := if c = true then (if 0 ≤ i then (if i < (l2.length : Int) then (some (rdOf false l2 i)) else (none)) else (none)) else (some false)
mutual
def spec_LoopAround.l0 : Nat → Int → Int → List Bool → Int → List (List Bool) → Option (Int × Int × (List (List Bool)) × (List (List Bool)))
 | 0, _, _, _, _, _ => none
 | k + 1, a0, a1, l2, x8, xs => if x8 ≤ a0 then (spec_LoopAround.l1 k a0 a1 l2 x8 [] 0 xs) else (spec_LoopAround.l2 k a0 a1 l2 0 xs [])
def spec_LoopAround.l1 : Nat → Int → Int → List Bool → Int → List Bool → Int → List (List Bool) → Option (Int × Int × (List (List Bool)) × (List (List Bool)))
 | 0, _, _, _, _, _, _, _ => none
 | k + 1, a0, a1, l2, x8, x9, x10, xs => if x10 < a1 then ((spec_LoopAround.at_ l2 (decide (0 < x8)) (wrap64 ((wrap64 ((wrap64 (x8 - 1)) * a1)) + x10))).bind fun t => ((spec_LoopAround.at_ l2 (decide (x8 < a0)) (wrap64 ((wrap64 (x8 * a1)) + x10))).bind fun t' => (if x9.length < 140737488355328 then (spec_LoopAround.l1 k a0 a1 l2 x8 (x9 ++ [t != t']) (wrap64 (x10 + 1)) xs) else (none)))) else (if xs.length < 5864062014805 then (spec_LoopAround.l0 k a0 a1 l2 (wrap64 (x8 + 1)) (xs ++ [x9])) else (none))
def spec_LoopAround.l2 : Nat → Int → Int → List Bool → Int → List (List Bool) → List (List Bool) → Option (Int × Int × (List (List Bool)) × (List (List Bool)))
 | 0, _, _, _, _, _, _ => none
 | k + 1, a0, a1, l2, x13, ys, xs => if x13 ≤ a1 then (spec_LoopAround.l3 k a0 a1 l2 x13 [] 0 ys xs) else (some (a0, a1, ys, xs))
def spec_LoopAround.l3 : Nat → Int → Int → List Bool → Int → List Bool → Int → List (List Bool) → List (List Bool) → Option (Int × Int × (List (List Bool)) × (List (List Bool)))
 | 0, _, _, _, _, _, _, _, _ => none
 | k + 1, a0, a1, l2, x13, x14, x15, ys, xs => if x15 < a0 then ((spec_LoopAround.at_ l2 (decide (0 < x13)) (wrap64 ((wrap64 ((wrap64 (x15 * a1)) + x13)) - 1))).bind fun t => ((spec_LoopAround.at_ l2 (decide (x13 < a1)) (wrap64 ((wrap64 (x15 * a1)) + x13))).bind fun t' => (if x14.length < 140737488355328 then (spec_LoopAround.l3 k a0 a1 l2 x13 (x14 ++ [t != t']) (wrap64 (x15 + 1)) ys xs) else (none)))) else (if xs.length < 5864062014805 then (spec_LoopAround.l2 k a0 a1 l2 (wrap64 (x13 + 1)) ys (xs ++ [x14])) else (none))
end
def spec_LoopAround.j (k : Nat) (a0 a1 : Int) (l2 : List Bool) (b : Bool) : Option (Int × Int × (List (List Bool)) × (List (List Bool))) := if b = true then (some (0, 0, [], [])) else (spec_LoopAround.l0 k a0 a1 l2 0 [])
def spec_LoopAround.f (k : Nat) (a0 : Int) (a1 : Int) (l2 : List Bool) : Option (Int × Int × (List (List Bool)) × (List (List Bool))) := (spec_l1In.f a0 1 4).bind fun t => (if t = true then ((spec_l1In.f a1 1 4).bind fun t' => (if t' = true then (spec_LoopAround.j k a0 a1 l2 ((l2.length : Int) != (wrap64 (a0 * a1)))) else (spec_LoopAround.j k a0 a1 l2 true))) else (spec_LoopAround.j k a0 a1 l2 true))
theorem spec_LoopAround.mono_l : ∀ k, (∀ y0 y1 y2 y3 y4, LeO (spec_LoopAround.l0 k y0 y1 y2 y3 y4) (spec_LoopAround.l0 (k + 1) y0 y1 y2 y3 y4)) ∧ (∀ y0 y1 y2 y3 y4 y5 y6, LeO (spec_LoopAround.l1 k y0 y1 y2 y3 y4 y5 y6) (spec_LoopAround.l1 (k + 1) y0 y1 y2 y3 y4 y5 y6)) ∧ (∀ y0 y1 y2 y3 y4 y5, LeO (spec_LoopAround.l2 k y0 y1 y2 y3 y4 y5) (spec_LoopAround.l2 (k + 1) y0 y1 y2 y3 y4 y5)) ∧ (∀ y0 y1 y2 y3 y4 y5 y6 y7, LeO (spec_LoopAround.l3 k y0 y1 y2 y3 y4 y5 y6 y7) (spec_LoopAround.l3 (k + 1) y0 y1 y2 y3 y4 y5 y6 y7))
 | 0 => ⟨fun _ _ _ _ _ r h => by simp [spec_LoopAround.l0] at h, fun _ _ _ _ _ _ _ r h => by simp [spec_LoopAround.l1] at h, fun _ _ _ _ _ _ r h => by simp [spec_LoopAround.l2] at h, fun _ _ _ _ _ _ _ _ r h => by simp [spec_LoopAround.l3] at h⟩
 | k + 1 => by
  obtain ⟨ih0, ih1, ih2, ih3⟩ := spec_LoopAround.mono_l k
  refine ⟨?_, ?_, ?_, ?_⟩
  ·intro y0 y1 y2 y3 y4
   unfold spec_LoopAround.l0
   repeat' first | (with_reducible first | exact ih0 _ _ _ _ _ | exact ih1 _ _ _ _ _ _ _ | exact ih2 _ _ _ _ _ _ | exact ih3 _ _ _ _ _ _ _ _ | exact LeO.refl _ | refine LeO.ite ?_ ?_ | refine LeO.bind ?_ (fun _ => ?_))
  ·intro y0 y1 y2 y3 y4 y5 y6
   unfold spec_LoopAround.l1
   repeat' first | (with_reducible first | exact ih0 _ _ _ _ _ | exact ih1 _ _ _ _ _ _ _ | exact ih2 _ _ _ _ _ _ | exact ih3 _ _ _ _ _ _ _ _ | exact LeO.refl _ | refine LeO.ite ?_ ?_ | refine LeO.bind ?_ (fun _ => ?_))
  ·intro y0 y1 y2 y3 y4 y5
   unfold spec_LoopAround.l2
   repeat' first | (with_reducible first | exact ih0 _ _ _ _ _ | exact ih1 _ _ _ _ _ _ _ | exact ih2 _ _ _ _ _ _ | exact ih3 _ _ _ _ _ _ _ _ | exact LeO.refl _ | refine LeO.ite ?_ ?_ | refine LeO.bind ?_ (fun _ => ?_))
  ·intro y0 y1 y2 y3 y4 y5 y6 y7
   unfold spec_LoopAround.l3
   repeat' first | (with_reducible first | exact ih0 _ _ _ _ _ | exact ih1 _ _ _ _ _ _ _ | exact ih2 _ _ _ _ _ _ | exact ih3 _ _ _ _ _ _ _ _ | exact LeO.refl _ | refine LeO.ite ?_ ?_ | refine LeO.bind ?_ (fun _ => ?_))
theorem spec_LoopAround.mono : ∀ a0 a1 a2 k, LeO (spec_LoopAround.f k a0 a1 a2) (spec_LoopAround.f (k + 1) a0 a1 a2) := by
 intro a0 a1 a2 k
 obtain ⟨ih0, _, _, _⟩ := spec_LoopAround.mono_l k
 have ihj : ∀ b, LeO (spec_LoopAround.j k a0 a1 a2 b) (spec_LoopAround.j (k + 1) a0 a1 a2 b) := fun b => LeO.ite (LeO.refl _) (ih0 _ _ _ _ _)
 unfold spec_LoopAround.f
 exact LeO.bind (LeO.refl _) (fun _ => LeO.ite (LeO.bind (LeO.refl _) (fun _ => LeO.ite (ihj _) (ihj _))) (ihj _))
/-! What is kept while the field is built: block g alone of the elder ones is written. -/
structure Lsk (W0 W : World) (g : Nat) (cs : Array Value) : Prop where
 keep : Below W0.heap.size W0 W
 blk : W.heap[g]? = some (.cells cs 27 (0, 0))
theorem Lsk.grown {W0 W W1 : World} {g : Nat} {cs : Array Value} (h : Lsk W0 W g cs) (hb : Below W0.heap.size W0 W1) {row : Option Nat} (hg : W.grownBy W1 row) (hne : some g ≠ row) : Lsk W0 W1 g cs := ⟨hb, blk_grown h.blk hg hne⟩
theorem Lsk.set_ {W0 W : World} {g : Nat} {cs cs' : Array Value} (h : Lsk W0 W g cs) (hg : W0.heap.size ≤ g) (j : Nat) (u : Value) (e : cs.setIfInBounds j u = cs') : Lsk W0 (W.setCell ⟨g, j, none⟩ u) g cs' :=
 ⟨below_set h.keep hg, blk_put h.blk j u e⟩
theorem Lsk.cell {W0 W : World} {g g' : Nat} {cs : Array Value} {v : Value} {t : Nat} (h : Lsk W0 W g cs) (hb : W0.heap[g']? = some (.cells #[v] t (0, 0))) : W.cell? ⟨g', 0, none⟩ = some v :=
 (blk_cell (blk_below hb h.keep) 0).trans rfl
theorem Lsk.low {w W0 W : World} {g : Nat} {cs : Array Value} (h : Lsk W0 W g cs) (hb : Below w.heap.size w W0) : Below w.heap.size w W := below_then hb hb.size h.keep
theorem spec_LoopAround.at_spec {W : World} {A2 : Option Addr} {l2 : List Bool} {c : Bool} {i : Int} {t : Bool} (h : spec_LoopAround.at_ l2 c i = some t) (hr : Kd.C Kd.bool W A2 l2.length l2) :
  (c = false ∧ t = false) ∨ (c = true ∧ ∃ ad, A2 = some ad ∧ 0 ≤ i ∧ i < (l2.length : Int) ∧ W.cell? (ad.add i.toNat) = some (.bool t)) := by
 unfold spec_LoopAround.at_ at h
 cases c with
 | false => rw [if_neg (by simp)] at h; exact .inl ⟨rfl, (Option.some.inj h).symm⟩
 | true =>
  rw [if_pos rfl] at h
  by_cases c1 : 0 ≤ i
  ·rw [if_pos c1] at h
   by_cases c2 : i < (l2.length : Int)
   ·rw [if_pos c2] at h
    obtain rfl := Option.some.inj h
    obtain ⟨ad, ea, hx⟩ := Kd.at_bool hr i c1 c2
    exact .inr ⟨rfl, ad, ea, c1, c2, hx⟩
   ·rw [if_neg c2] at h; cases h
  ·rw [if_neg c1] at h; cases h
set_option maxHeartbeats 16000000 in
set_option maxRecDepth 100000 in
theorem spec_LoopAround.callsB (k : Nat) (a0 : Int) (a1 : Int) (A2 : Option Addr) (c2 : Nat) (l2 : List Bool) (r1 : Int) (r2 : Int) (r3 : List (List Bool)) (r4 : List (List Bool)) (w : World) (hr2 : Kd.C Kd.bool w A2 l2.length l2) (hc2 : l2.length ≤ c2) (h : spec_LoopAround.f k a0 a1 l2 = some (r1, r2, r3, r4)) :
  Calls Try.prog 42 #[.int .i64 a0, .int .i64 a1, .slice A2 l2.length c2] w fun e w' => ∃ (v2_ v3_ : Value) (B : Nat), e = .returned (.agg #[.int .i64 r1, .int .i64 r2, v2_, v3_]) ∧ Kd.S (Kd.slice 4 Kd.bool) 45 w' w.heap.size (fun k_ => k_ < B) v2_ r3 ∧ Kd.S (Kd.slice 4 Kd.bool) 45 w' w.heap.size (fun k_ => B ≤ k_) v3_ r4 ∧ Below w.heap.size w w' := by
 have hu40 := Try.underlying27
 have HR2 := asd hr2
 clear hr2
 have H := asd h
 clear h
 go_enter Try.func42, Try.ntmps42
 go_upto_region 1 with (first | ((with_reducible refine gate_dst (N := 6) rfl ?_); refine box_event ?hg4 (N := 6) ?hd4 (cs := #[.int .i64 0, .int .i64 0, .slice none 0 0, .slice none 0 0]) (t := 27) ?hr4 ?_; (case hd4 => rfl); (case hg4 => rfl); (case hr4 => first | (go_simp; done) | (go_simp; rfl)); intro g6 e6 w6 b6 n6; have E6 := asd e6; have B6 := asd b6; have N6 := asd n6; clear e6 b6 n6))
 have GE := asd (show w.heap.size ≤ g6 by rw [E6.out]; exact Nat.le_refl _)
 clear E6
 (try simp only [Act.put, List.setIfInBounds_toArray, List.set_cons_zero, List.set_cons_succ])
 go_cut [33] (fun v33 wc => ∃ b33 : Bool, v33 = .bool b33 ∧ Aside0 (spec_LoopAround.j k a0 a1 l2 b33 = some (r1, r2, r3, r4)) ∧ Aside0 (wc.heap[g6]? = some (.cells #[.int .i64 0, .int .i64 0, .slice none 0 0, .slice none 0 0] 27 (0, 0))) ∧ Aside0 (Below w.heap.size w wc))
 case first =>
  have H1 := H.out
  clear H
  unfold spec_LoopAround.f at H1
  obtain ⟨t, A10, H1⟩ := Option.bind_eq_some_iff.mp H1
  have A1 := asd A10
  clear A10
  cases t with
  | false =>
   have H2 := asd ((if_neg (by simp)).symm.trans H1)
   clear H1
   go_wp2_with (first | ((with_reducible refine gate_callee (f := 82) rfl ?_); refine goesL_ (some 19) rfl rfl Try.func82 (by kernel_rfl) rfl #[.int .i64 a0, .int .i64 1, .int .i64 4] rfl (by (try simp only [List.map_toArray, List.map_cons, List.map_nil]); first | done | rfl) ?_; (with_reducible refine (spec_l1In.calls a0 1 4 false _ A1.out).mono ?_); rintro e w' ⟨rfl, ⟨nd, rfl⟩⟩; refine ⟨_, rfl, ?_⟩))
   go_meet
   case rel => exact ⟨_, rfl, H2, ⟨by (with_reducible repeat (first | refine blk_drewN ?_ _ | refine blk_drew ?_)); exact B6.out⟩, ⟨by repeat (first | (with_reducible first | exact N6.out | apply pw_below_drewN | apply below_drew))⟩⟩
  | true =>
   rw [if_pos rfl] at H1
   obtain ⟨t', A20, H1⟩ := Option.bind_eq_some_iff.mp H1
   have A2_ := asd A20
   clear A20
   cases t' with
   | false =>
    have H2 := asd ((if_neg (by simp)).symm.trans H1)
    clear H1
    go_wp2_with (first | ((with_reducible refine gate_callee (f := 82) rfl ?_); refine goesL_ (some 19) rfl rfl Try.func82 (by kernel_rfl) rfl #[.int .i64 a0, .int .i64 1, .int .i64 4] rfl (by (try simp only [List.map_toArray, List.map_cons, List.map_nil]); first | done | rfl) ?_; (with_reducible refine (spec_l1In.calls a0 1 4 true _ A1.out).mono ?_); rintro e w' ⟨rfl, ⟨nd, rfl⟩⟩; refine ⟨_, rfl, ?_⟩) | ((try (refine gate_guard (by rfl) ?_; dsimp only)); (with_reducible refine gate_callee (f := 82) rfl ?_); refine goesL_ (some 23) rfl rfl Try.func82 (by kernel_rfl) rfl #[.int .i64 a1, .int .i64 1, .int .i64 4] rfl (by (try simp only [List.map_toArray, List.map_cons, List.map_nil]); first | done | rfl) ?_; (with_reducible refine (spec_l1In.calls a1 1 4 false _ A2_.out).mono ?_); rintro e w' ⟨rfl, ⟨nd, rfl⟩⟩; refine ⟨_, rfl, ?_⟩))
    go_meet
    case rel => exact ⟨_, rfl, H2, ⟨by (with_reducible repeat (first | refine blk_drewN ?_ _ | refine blk_drew ?_)); exact B6.out⟩, ⟨by repeat (first | (with_reducible first | exact N6.out | apply pw_below_drewN | apply below_drew))⟩⟩
   | true =>
    have H2 := asd ((if_pos rfl).symm.trans H1)
    clear H1
    go_wp2_with (first | ((with_reducible refine gate_callee (f := 82) rfl ?_); refine goesL_ (some 19) rfl rfl Try.func82 (by kernel_rfl) rfl #[.int .i64 a0, .int .i64 1, .int .i64 4] rfl (by (try simp only [List.map_toArray, List.map_cons, List.map_nil]); first | done | rfl) ?_; (with_reducible refine (spec_l1In.calls a0 1 4 true _ A1.out).mono ?_); rintro e w' ⟨rfl, ⟨nd, rfl⟩⟩; refine ⟨_, rfl, ?_⟩) | ((try (refine gate_guard (by rfl) ?_; dsimp only)); (with_reducible refine gate_callee (f := 82) rfl ?_); refine goesL_ (some 23) rfl rfl Try.func82 (by kernel_rfl) rfl #[.int .i64 a1, .int .i64 1, .int .i64 4] rfl (by (try simp only [List.map_toArray, List.map_cons, List.map_nil]); first | done | rfl) ?_; (with_reducible refine (spec_l1In.calls a1 1 4 true _ A2_.out).mono ?_); rintro e w' ⟨rfl, ⟨nd, rfl⟩⟩; refine ⟨_, rfl, ?_⟩))
    go_meet
    case rel => exact ⟨_, rfl, H2, ⟨by (with_reducible repeat (first | refine blk_drewN ?_ _ | refine blk_drew ?_)); exact B6.out⟩, ⟨by repeat (first | (with_reducible first | exact N6.out | apply pw_below_drewN | apply below_drew))⟩⟩
 case rest =>
  clear H B6 N6
  obtain ⟨b33, rfl, H1, B6, HB⟩ := hcut
  have H := H1.out
  clear H1
  unfold spec_LoopAround.j at H
  cases b33 with
  | true =>
   rw [if_pos rfl] at H
   simp only [Option.some.injEq, Prod.mk.injEq] at H
   obtain ⟨rfl, rfl, rfl, rfl⟩ := H
   have hcz0 : wc.cell? ⟨g6, 0, none⟩ = some (.int .i64 0) := (blk_cell B6.out 0).trans rfl
   have hcz1 : wc.cell? ⟨g6, 1, none⟩ = some (.int .i64 0) := (blk_cell B6.out 1).trans rfl
   have hcz2 : wc.cell? ⟨g6, 2, none⟩ = some (.slice none 0 0) := (blk_cell B6.out 2).trans rfl
   have hcz3 : wc.cell? ⟨g6, 3, none⟩ = some (.slice none 0 0) := (blk_cell B6.out 3).trans rfl
   have hfz0 := blk_frozen B6.out 0
   have hfz1 := blk_frozen B6.out 1
   have hfz2 := blk_frozen B6.out 2
   have hfz3 := blk_frozen B6.out 3
   go_wp2
   refine bodyPost_ret (results_cell_row rfl _ _ g6 27 #[.int .i64 0, .int .i64 0, .slice none 0 0, .slice none 0 0] (0, 0) _ rfl (by refine blk_put (cs := #[.int .i64 0, .int .i64 0, .slice none 0 0, .slice none 0 0]) ?_ 3 _ rfl; refine blk_put (cs := #[.int .i64 0, .int .i64 0, .slice none 0 0, .slice none 0 0]) ?_ 2 _ rfl; refine blk_put (cs := #[.int .i64 0, .int .i64 0, .slice none 0 0, .slice none 0 0]) ?_ 1 _ rfl; refine blk_put (cs := #[.int .i64 0, .int .i64 0, .slice none 0 0, .slice none 0 0]) ?_ 0 _ rfl; exact B6.out) hu40 rfl (by kernel_rfl)) rfl ?_
   exact ⟨_, _, 0, rfl, Kd.S_nil _ _ _ _ _, Kd.S_nil _ _ _ _ _, below_set (below_set (below_set (below_set HB.out GE.out) GE.out) GE.out) GE.out⟩
  | false =>
   have H' := (if_neg (by simp)).symm.trans H
   clear H
   have H := asd H'
   clear H'
   have HZ := asd (show w.heap.size ≤ wc.heap.size ∧ g6 < wc.heap.size from ⟨HB.out.size, blk_lt B6.out⟩)
   go_wp2_with (first | ((with_reducible refine gate_dst (N := 7) rfl ?_); refine box_event ?hg (N := 7) ?hd (cs := #[.int .i64 0, .int .i64 0, .slice none 0 0, .slice none 0 0]) (t := 27) ?hr ?_; (case hd => rfl); (case hg => rfl); (case hr => first | (go_simp; done) | (go_simp; rfl)); intro g7 e7 w8 b7 n7; have E7 := asd e7; have B7 := asd b7; have N7 := asd n7; clear e7 b7 n7; have hcz0 : w8.cell? ⟨g7, 0, none⟩ = some (.int .i64 0) := (blk_cell B7.out 0).trans rfl; have hcz1 : w8.cell? ⟨g7, 1, none⟩ = some (.int .i64 0) := (blk_cell B7.out 1).trans rfl; have hcz2 : w8.cell? ⟨g7, 2, none⟩ = some (.slice none 0 0) := (blk_cell B7.out 2).trans rfl; have hcz3 : w8.cell? ⟨g7, 3, none⟩ = some (.slice none 0 0) := (blk_cell B7.out 3).trans rfl; have hfz0 := blk_frozen B7.out 0; have hfz1 := blk_frozen B7.out 1; have hfz2 := blk_frozen B7.out 2; have hfz3 := blk_frozen B7.out 3) | ((with_reducible refine gate_store (t := 27) (p := 7) rfl ?_); refine store_event (t := 27) (p := 7) (v := ?vo) (w1 := ((((w8.setCell ⟨g7, 0, none⟩ (.int .i64 a0)).setCell ⟨g7, 1, none⟩ (.int .i64 a1)).setCell ⟨g7, 2, none⟩ (.slice none 0 0)).setCell ⟨g7, 3, none⟩ (.slice none 0 0))) ?hgs ?hos ?hns ?hrs ?_; (case hos => rfl); (case hgs => rfl); (case hns => rfl); (case hrs => first | (go_simp; done) | (go_simp; rfl)); intro w9 hw; have HW := asd hw; clear hw hcz0 hcz1 hcz2 hcz3 hfz0 hfz1 hfz2 hfz3; have T1 := asd (show w9.heap[g7]? = some (.cells #[.int .i64 a0, .int .i64 a1, .slice none 0 0, .slice none 0 0] 27 (0, 0)) by rw [HW.out]; refine blk_put (cs := #[.int .i64 a0, .int .i64 a1, .slice none 0 0, .slice none 0 0]) ?_ 3 _ rfl; refine blk_put (cs := #[.int .i64 a0, .int .i64 a1, .slice none 0 0, .slice none 0 0]) ?_ 2 _ rfl; refine blk_put (cs := #[.int .i64 a0, .int .i64 0, .slice none 0 0, .slice none 0 0]) ?_ 1 _ rfl; refine blk_put (cs := #[.int .i64 0, .int .i64 0, .slice none 0 0, .slice none 0 0]) ?_ 0 _ rfl; exact B7.out); have K9 := asd (show Below wc.heap.size wc w9 by rw [HW.out]; exact below_set (below_set (below_set (below_set N7.out (by rw [E7.out]; exact Nat.le_refl _)) (by rw [E7.out]; exact Nat.le_refl _)) (by rw [E7.out]; exact Nat.le_refl _)) (by rw [E7.out]; exact Nat.le_refl _)); clear HW))
   have L := asd (Lsk.mk K9.out T1.out)
   have G7 := asd (show wc.heap.size ≤ g7 by rw [E7.out]; exact Nat.le_refl _)
   have HS := asd (Kd.S_nil (Kd.slice 4 Kd.bool) 45 w9 wc.heap.size (fun _ => True))
   clear K9 T1 E7 B7 N7
   go_loopg [8] k (fun kq v8 W => ∃ (x8 : Int) (xs : List (List Bool)) (u : Value), v8 = .int .i64 x8 ∧ Aside0 (spec_LoopAround.l0 kq a0 a1 l2 x8 xs = some (r1, r2, r3, r4)) ∧ Aside0 (kq ≤ k) ∧ Aside0 (Lsk wc W g7 #[.int .i64 a0, .int .i64 a1, u, .slice none 0 0]) ∧ Aside0 (Kd.S (Kd.slice 4 Kd.bool) 45 W wc.heap.size (fun _ => True) u xs))
   case atStart => exact ⟨0, [], .slice none 0 0, rfl, H, ⟨Nat.le_refl _⟩, L, HS⟩
   case round =>
    clear H L HS
    obtain ⟨x8, xs, u, rfl, HA, HK1, L, HS⟩ := hrel
    cases gk with
    | zero => exact absurd HA.out (by simp [spec_LoopAround.l0])
    | succ k1 =>
     have H := HA.out
     clear HA
     simp only [spec_LoopAround.l0] at H
     by_cases c5 : x8 ≤ a0
     ·rw [if_pos c5] at H
      have d5 : decide (x8 ≤ a0) = true := decide_eq_true c5
      clear c5
      have H' := asd H
      clear H
      go_wp2_with (first | ((with_reducible refine gate_dst (N := 43) rfl ?_); refine Kd.R_lit Kd.bool wc.heap.size 4 ?hg (N := 43) ?hd (xs := ([] : List Bool)) (inner := []) (ok := fun k_ => True) (okp := fun _ => True) ?hr ?hp (fun _ hk => hk) trivial L.out.keep L.out.keep.size (by simp) ?_; (case hd => rfl); (case hg => rfl); (case hr => first | (go_simp; done) | (go_simp; rfl)); (case hp => exact (Reps.none _ _)); intro v10 w10 ho hb hg hnew; have n0_ := asd ho; have n1_ := asd (L.out.grown hb hg (by simp)); have n2_ := asd (show Kd.S (Kd.slice 4 Kd.bool) 45 w10 wc.heap.size (fun k_ => True ∧ some k_ ≠ (v10 : Value).ownBlock) u xs by obtain ⟨b_, eb, hb_⟩ := hnew; exact Kd.S_grown (Kd.S_mono (Kd.S_bound HS.out) (fun k_ hk_ => ⟨hk_.1, by rw [eb]; intro e_; injection e_ with e_; omega⟩)) hg (by simp)); clear L HS ho hb hg hnew; have HO := n0_; have L := n1_; have HS := n2_; clear n0_ n1_ n2_))
      go_loopg [9, 10] k1 (fun kq vL vC W => ∃ (x9 : List Bool) (x10 : Int), vC = .int .i64 x10 ∧ Aside0 (spec_LoopAround.l1 kq a0 a1 l2 x8 x9 x10 xs = some (r1, r2, r3, r4)) ∧ Aside0 (kq ≤ k1) ∧ Aside0 (Kd.R Kd.bool 4 W wc.heap.size (fun k_ => True) vL x9) ∧ Aside0 (Lsk wc W g7 #[.int .i64 a0, .int .i64 a1, u, .slice none 0 0]) ∧ Aside0 (Kd.S (Kd.slice 4 Kd.bool) 45 W wc.heap.size (fun k_ => True ∧ some k_ ≠ (vL : Value).ownBlock) u xs))
      case atStart => exact ⟨[], 0, rfl, H', ⟨Nat.le_refl _⟩, HO, L, HS⟩
      case round =>
       clear H' HO L HS
       obtain ⟨x9, x10, rfl, HA, HK2, HO, L, HS⟩ := hrel
       cases gk with
       | zero => exact absurd HA.out (by simp [spec_LoopAround.l1])
       | succ k2 =>
        have H := HA.out
        clear HA
        simp only [spec_LoopAround.l1] at H
        by_cases c6 : x10 < a1
        ·rw [if_pos c6] at H
         have d6 : decide (x10 < a1) = true := decide_eq_true c6
         clear c6
         obtain ⟨t, A10, H⟩ := Option.bind_eq_some_iff.mp H
         obtain ⟨t', A20, H⟩ := Option.bind_eq_some_iff.mp H
         by_cases c7 : x9.length < 140737488355328
         ·rw [if_pos c7] at H
          have LM := asd c7
          clear c7
          obtain ⟨b, hb_⟩ : ∃ b : Bool, b = (t != t') := ⟨_, rfl⟩
          rw [← hb_] at H
          have HBB := asd hb_
          clear hb_
          have H' := asd H
          clear H
          have HRW := asd (Kd.C_below HR2.out (L.out.low HB.out))
          have A1 := spec_LoopAround.at_spec A10 HRW.out
          have A2_ := spec_LoopAround.at_spec A20 HRW.out
          clear A10 A20 HRW
          rcases A1 with ⟨d1, e1⟩ | ⟨d1, ad, e1, p1, q1, hx1⟩
          ·rcases A2_ with ⟨d2, e2⟩ | ⟨d2, ad', e2, p2, q2, hx2⟩
           ·rw [e1] at HBB
            clear e1
            rw [e2] at HBB
            clear e2
            have HPB := asd (show false = b from HBB.out.symm)
            clear HBB
            go_wp2_with (first | ((with_reducible refine gate_builtin (b := .append) (xs := #[.tmp 75, .tmp 79]) rfl ?_); at_builtin; refine Kd.R_append Kd.bool (w0 := wc) wc.heap.size rfl (.tmp 75) (.tmp 79) 45 4 (.bool false) 1 rfl Try.underlying45 info4 rfl (by decide) (by omega) u9 x9 false [.bool false] (fun k_ => True) (fun _ => False) rfl rfl ?aP (fun _ hk => hk.elim) ?aF ?aO ?aB ?aS ?aL ?_; (case aP => exact rfl); (case aB => exact L.out.keep); (case aF => exact (fun _ _ => trivial)); (case aO => exact HO.out); (case aS => exact L.out.keep.size); (case aL => have := LM.out; omega); intro v1 w1 ho hb hg hat; rw [HPB.out] at ho; have n0_ := asd ho; have n1_ := asd (L.out.grown hb hg (Kd.R_ne HO.out L.out.blk (by decide))); have n2_ := asd (Kd.S_after (ok := fun k_ => True) HS.out hg hat); clear HO L HS ho hb hg hat; have HO := n0_; have L := n1_; have HS := n2_; clear n0_ n1_ n2_))
            go_roundg k2
            case measure => have := HK2.out; omega
            case rel => exact ⟨_, _, rfl, H', ⟨by have := HK2.out; omega⟩, HO, L, HS⟩
           ·rw [e1] at HBB
            clear e1
            subst e2
            replace p2 := eq_true p2
            replace q2 := eq_true q2
            have HPB := asd (show t' = b from (HBB.out.trans (Bool.false_bne t')).symm)
            clear HBB
            go_wp2_with (first | ((with_reducible refine gate_builtin (b := .append) (xs := #[.tmp 75, .tmp 79]) rfl ?_); at_builtin; refine Kd.R_append Kd.bool (w0 := wc) wc.heap.size rfl (.tmp 75) (.tmp 79) 45 4 (.bool false) 1 rfl Try.underlying45 info4 rfl (by decide) (by omega) u9 x9 t' [.bool t'] (fun k_ => True) (fun _ => False) rfl rfl ?aP (fun _ hk => hk.elim) ?aF ?aO ?aB ?aS ?aL ?_; (case aP => exact rfl); (case aB => exact L.out.keep); (case aF => exact (fun _ _ => trivial)); (case aO => exact HO.out); (case aS => exact L.out.keep.size); (case aL => have := LM.out; omega); intro v1 w1 ho hb hg hat; rw [HPB.out] at ho; have n0_ := asd ho; have n1_ := asd (L.out.grown hb hg (Kd.R_ne HO.out L.out.blk (by decide))); have n2_ := asd (Kd.S_after (ok := fun k_ => True) HS.out hg hat); clear HO L HS ho hb hg hat; have HO := n0_; have L := n1_; have HS := n2_; clear n0_ n1_ n2_))
            go_roundg k2
            case measure => have := HK2.out; omega
            case rel => exact ⟨_, _, rfl, H', ⟨by have := HK2.out; omega⟩, HO, L, HS⟩
          ·rcases A2_ with ⟨d2, e2⟩ | ⟨d2, ad', e2, p2, q2, hx2⟩
           ·subst e1
            replace p1 := eq_true p1
            replace q1 := eq_true q1
            rw [e2] at HBB
            clear e2
            have HPB := asd (show t = b from (HBB.out.trans (Bool.bne_false t)).symm)
            clear HBB
            go_wp2_with (first | ((with_reducible refine gate_builtin (b := .append) (xs := #[.tmp 75, .tmp 79]) rfl ?_); at_builtin; refine Kd.R_append Kd.bool (w0 := wc) wc.heap.size rfl (.tmp 75) (.tmp 79) 45 4 (.bool false) 1 rfl Try.underlying45 info4 rfl (by decide) (by omega) u9 x9 t [.bool t] (fun k_ => True) (fun _ => False) rfl rfl ?aP (fun _ hk => hk.elim) ?aF ?aO ?aB ?aS ?aL ?_; (case aP => exact rfl); (case aB => exact L.out.keep); (case aF => exact (fun _ _ => trivial)); (case aO => exact HO.out); (case aS => exact L.out.keep.size); (case aL => have := LM.out; omega); intro v1 w1 ho hb hg hat; rw [HPB.out] at ho; have n0_ := asd ho; have n1_ := asd (L.out.grown hb hg (Kd.R_ne HO.out L.out.blk (by decide))); have n2_ := asd (Kd.S_after (ok := fun k_ => True) HS.out hg hat); clear HO L HS ho hb hg hat; have HO := n0_; have L := n1_; have HS := n2_; clear n0_ n1_ n2_))
            go_roundg k2
            case measure => have := HK2.out; omega
            case rel => exact ⟨_, _, rfl, H', ⟨by have := HK2.out; omega⟩, HO, L, HS⟩
           ·subst e1
            replace p1 := eq_true p1
            replace q1 := eq_true q1
            obtain rfl := Option.some.inj e2
            clear e2
            replace p2 := eq_true p2
            replace q2 := eq_true q2
            have HPB := asd (show (t != t') = b from HBB.out.symm)
            clear HBB
            go_wp2_with (first | ((with_reducible refine gate_builtin (b := .append) (xs := #[.tmp 75, .tmp 79]) rfl ?_); at_builtin; refine Kd.R_append Kd.bool (w0 := wc) wc.heap.size rfl (.tmp 75) (.tmp 79) 45 4 (.bool false) 1 rfl Try.underlying45 info4 rfl (by decide) (by omega) u9 x9 (t != t') [.bool (t != t')] (fun k_ => True) (fun _ => False) rfl rfl ?aP (fun _ hk => hk.elim) ?aF ?aO ?aB ?aS ?aL ?_; (case aP => exact rfl); (case aB => exact L.out.keep); (case aF => exact (fun _ _ => trivial)); (case aO => exact HO.out); (case aS => exact L.out.keep.size); (case aL => have := LM.out; omega); intro v1 w1 ho hb hg hat; rw [HPB.out] at ho; have n0_ := asd ho; have n1_ := asd (L.out.grown hb hg (Kd.R_ne HO.out L.out.blk (by decide))); have n2_ := asd (Kd.S_after (ok := fun k_ => True) HS.out hg hat); clear HO L HS ho hb hg hat; have HO := n0_; have L := n1_; have HS := n2_; clear n0_ n1_ n2_))
            go_roundg k2
            case measure => have := HK2.out; omega
            case rel => exact ⟨_, _, rfl, H', ⟨by have := HK2.out; omega⟩, HO, L, HS⟩
         ·rw [if_neg c7] at H; cases H
        ·rw [if_neg c6] at H
         have d6 : decide (x10 < a1) = false := decide_eq_false c6
         clear c6
         by_cases c8 : xs.length < 5864062014805
         ·rw [if_pos c8] at H
          have LM := asd c8
          clear c8
          have H' := asd H
          clear H
          obtain ⟨ao, co, eo⟩ := Kd.R_slice HO.out
          subst eo
          have hz := (blk_cell L.out.blk 2).trans rfl
          go_wp2_with (first | ((with_reducible refine gate_builtin (b := .append) (xs := #[.tmp 82, .tmp 84]) rfl ?_); at_builtin; refine Kd.S_append (Kd.slice 4 Kd.bool) (w0 := wc) wc.heap.size rfl (.tmp 82) (.tmp 84) 22 45 (.slice none 0 0) 24 rfl Try.underlying22 info45 rfl (by decide) (by omega) u xs x9 [.slice ao x9.length co] (fun k_ => True) (fun k_ => some k_ = (.slice ao x9.length co : Value).ownBlock) rfl rfl ?aP (fun k_ hk_ => ⟨HO.out.1 k_ hk_.symm, fun e_ => ((Kd.S_R HS.out).1 k_ e_.symm).2 hk_⟩) ?aF ?aO ?aB ?aS ?aL ?_; (case aP => exact Kd.M_row (Kd.R_tight rfl HO.out)); (case aB => exact L.out.keep); (case aF => exact (fun _ _ => trivial)); (case aO => exact HS.out); (case aS => exact L.out.keep.size); (case aL => have := LM.out; omega); intro v1 w1 ho hb hg hat; have n0_ := asd ho; have n1_ := asd (L.out.grown hb hg (Kd.S_ne HS.out L.out.blk (by decide))); clear HO L HS ho hb hg hat hz; have HS := n0_; have L := n1_; clear n0_ n1_; obtain ⟨ao1, co1, eo1⟩ := Kd.S_slice HS.out; subst eo1; have hz := (blk_cell L.out.blk 2).trans rfl; have hf := blk_frozen L.out.blk 2))
          go_roundg k2
          case measure => have := HK1.out; have := HK2.out; omega
          case rel => exact ⟨_, xs ++ [x9], .slice ao1 (xs.length + 1) co1, rfl, H', ⟨by have := HK1.out; have := HK2.out; omega⟩, ⟨L.out.set_ G7.out 2 _ rfl⟩, ⟨by have h_ := Kd.S_set HS.out L.out.blk (by intro q hq; simp [Kd.slice, Kd.bool, Kd.scalar] at hq; omega) 2 (.slice ao1 (xs.length + 1) co1); rw [List.length_append] at h_; exact h_⟩⟩
         ·rw [if_neg c8] at H; cases H
     ·rw [if_neg c5] at H
      have d5 : decide (x8 ≤ a0) = false := decide_eq_false c5
      clear c5
      have H' := asd H
      clear H
      obtain ⟨ay, cy, ey⟩ := Kd.S_slice HS.out
      subst ey
      go_wp2
      obtain ⟨B, eB⟩ : ∃ B, B = wr.heap.size := ⟨_, rfl⟩
      have HY := asd (show Kd.S (Kd.slice 4 Kd.bool) 45 wr wc.heap.size (fun k_ => k_ < B) (.slice ay xs.length cy) xs from Kd.S_mono (Kd.S_bound HS.out) (fun k_ hk_ => by have := hk_.2.2.1; omega))
      have HS2 := asd (Kd.S_nil (Kd.slice 4 Kd.bool) 45 wr wc.heap.size (fun k_ => B ≤ k_))
      have BS := asd (show B ≤ wr.heap.size by omega)
      clear HS eB
      go_loopg [13] k1 (fun kq v13 W => ∃ (x13 : Int) (ys : List (List Bool)) (u : Value), v13 = .int .i64 x13 ∧ Aside0 (spec_LoopAround.l2 kq a0 a1 l2 x13 xs ys = some (r1, r2, r3, r4)) ∧ Aside0 (kq ≤ k1) ∧ Aside0 (Lsk wc W g7 #[.int .i64 a0, .int .i64 a1, .slice ay xs.length cy, u]) ∧ Aside0 (Kd.S (Kd.slice 4 Kd.bool) 45 W wc.heap.size (fun k_ => B ≤ k_) u ys) ∧ Aside0 (Kd.S (Kd.slice 4 Kd.bool) 45 W wc.heap.size (fun k_ => k_ < B) (.slice ay xs.length cy) xs) ∧ Aside0 (B ≤ W.heap.size))
      case atStart => exact ⟨0, [], .slice none 0 0, rfl, H', ⟨Nat.le_refl _⟩, L, HS2, HY, BS⟩
      case round =>
       clear H' L HS2 HY BS HK1
       obtain ⟨x13, ys, u, rfl, HA, HK1, L, HS, HY, BS⟩ := hrel
       cases gk with
       | zero => exact absurd HA.out (by simp [spec_LoopAround.l2])
       | succ k1 =>
        have H := HA.out
        clear HA
        simp only [spec_LoopAround.l2] at H
        by_cases c5 : x13 ≤ a1
        ·rw [if_pos c5] at H
         have d5 : decide (x13 ≤ a1) = true := decide_eq_true c5
         clear c5
         have H' := asd H
         clear H
         go_wp2_with (first | ((with_reducible refine gate_dst (N := 92) rfl ?_); refine Kd.R_lit Kd.bool wc.heap.size 4 ?hg (N := 92) ?hd (xs := ([] : List Bool)) (inner := []) (ok := fun k_ => B ≤ k_) (okp := fun _ => False) ?hr ?hp (fun _ hk => hk.elim) BS.out L.out.keep L.out.keep.size (by simp) ?_; (case hd => rfl); (case hg => rfl); (case hr => first | (go_simp; done) | (go_simp; rfl)); (case hp => exact (Reps.none _ _)); intro v10 w10 ho hb hg hnew; have n0_ := asd ho; have n1_ := asd (L.out.grown hb hg (by simp)); have n2_ := asd (show Kd.S (Kd.slice 4 Kd.bool) 45 w10 wc.heap.size (fun k_ => B ≤ k_ ∧ some k_ ≠ (v10 : Value).ownBlock) u ys by obtain ⟨b_, eb, hb_⟩ := hnew; exact Kd.S_grown (Kd.S_mono (Kd.S_bound HS.out) (fun k_ hk_ => ⟨hk_.1, by rw [eb]; intro e_; injection e_ with e_; omega⟩)) hg (by simp)); have n3_ := asd (Kd.S_grown HY.out hg (by simp)); have n4_ := asd (Nat.le_trans BS.out hg.size); clear L HS HY BS ho hb hg hnew; have HO := n0_; have L := n1_; have HS := n2_; have HY := n3_; have BS := n4_; clear n0_ n1_ n2_ n3_ n4_))
         go_loopg [14, 15] k1 (fun kq vL vC W => ∃ (x14 : List Bool) (x15 : Int), vC = .int .i64 x15 ∧ Aside0 (spec_LoopAround.l3 kq a0 a1 l2 x13 x14 x15 xs ys = some (r1, r2, r3, r4)) ∧ Aside0 (kq ≤ k1) ∧ Aside0 (Kd.R Kd.bool 4 W wc.heap.size (fun k_ => B ≤ k_) vL x14) ∧ Aside0 (Lsk wc W g7 #[.int .i64 a0, .int .i64 a1, .slice ay xs.length cy, u]) ∧ Aside0 (Kd.S (Kd.slice 4 Kd.bool) 45 W wc.heap.size (fun k_ => B ≤ k_ ∧ some k_ ≠ (vL : Value).ownBlock) u ys) ∧ Aside0 (Kd.S (Kd.slice 4 Kd.bool) 45 W wc.heap.size (fun k_ => k_ < B) (.slice ay xs.length cy) xs) ∧ Aside0 (B ≤ W.heap.size))
         case atStart => exact ⟨[], 0, rfl, H', ⟨Nat.le_refl _⟩, HO, L, HS, HY, BS⟩
         case round =>
          clear H' HO L HS HY BS
          obtain ⟨x14, x15, rfl, HA, HK2, HO, L, HS, HY, BS⟩ := hrel
          cases gk with
          | zero => exact absurd HA.out (by simp [spec_LoopAround.l3])
          | succ k2 =>
           have H := HA.out
           clear HA
           simp only [spec_LoopAround.l3] at H
           by_cases c6 : x15 < a0
           ·rw [if_pos c6] at H
            have d6 : decide (x15 < a0) = true := decide_eq_true c6
            clear c6
            obtain ⟨t, A10, H⟩ := Option.bind_eq_some_iff.mp H
            obtain ⟨t', A20, H⟩ := Option.bind_eq_some_iff.mp H
            by_cases c7 : x14.length < 140737488355328
            ·rw [if_pos c7] at H
             have LM := asd c7
             clear c7
             obtain ⟨b, hb_⟩ : ∃ b : Bool, b = (t != t') := ⟨_, rfl⟩
             rw [← hb_] at H
             have HBB := asd hb_
             clear hb_
             have H' := asd H
             clear H
             have HRW := asd (Kd.C_below HR2.out (L.out.low HB.out))
             have A1 := spec_LoopAround.at_spec A10 HRW.out
             have A2_ := spec_LoopAround.at_spec A20 HRW.out
             clear A10 A20 HRW
             rcases A1 with ⟨d1, e1⟩ | ⟨d1, ad, e1, p1, q1, hx1⟩
             ·rcases A2_ with ⟨d2, e2⟩ | ⟨d2, ad', e2, p2, q2, hx2⟩
              ·rw [e1] at HBB
               clear e1
               rw [e2] at HBB
               clear e2
               have HPB := asd (show false = b from HBB.out.symm)
               clear HBB
               go_wp2_with (first | ((with_reducible refine gate_builtin (b := .append) (xs := #[.tmp 124, .tmp 128]) rfl ?_); at_builtin; refine Kd.R_append Kd.bool (w0 := wc) wc.heap.size rfl (.tmp 124) (.tmp 128) 45 4 (.bool false) 1 rfl Try.underlying45 info4 rfl (by decide) (by omega) u14 x14 false [.bool false] (fun k_ => B ≤ k_) (fun _ => False) rfl rfl ?aP (fun _ hk => hk.elim) ?aF ?aO ?aB ?aS ?aL ?_; (case aP => exact rfl); (case aB => exact L.out.keep); (case aF => exact (fun k_ hk_ => Nat.le_trans BS.out hk_)); (case aO => exact HO.out); (case aS => exact L.out.keep.size); (case aL => have := LM.out; omega); intro v1 w1 ho hb hg hat; rw [HPB.out] at ho; have n0_ := asd ho; have n1_ := asd (L.out.grown hb hg (Kd.R_ne HO.out L.out.blk (by decide))); have n2_ := asd (Kd.S_after (ok := fun k_ => B ≤ k_) HS.out hg hat); have n3_ := asd (Kd.S_grown HY.out hg (fun k_ hk_ e_ => Nat.not_le.2 hk_ (HO.out.1 k_ e_.symm))); have n4_ := asd (Nat.le_trans BS.out hg.size); clear HO L HS HY BS ho hb hg hat; have HO := n0_; have L := n1_; have HS := n2_; have HY := n3_; have BS := n4_; clear n0_ n1_ n2_ n3_ n4_))
               go_roundg k2
               case measure => have := HK2.out; omega
               case rel => exact ⟨_, _, rfl, H', ⟨by have := HK2.out; omega⟩, HO, L, HS, HY, BS⟩
              ·rw [e1] at HBB
               clear e1
               subst e2
               replace p2 := eq_true p2
               replace q2 := eq_true q2
               have HPB := asd (show t' = b from (HBB.out.trans (Bool.false_bne t')).symm)
               clear HBB
               go_wp2_with (first | ((with_reducible refine gate_builtin (b := .append) (xs := #[.tmp 124, .tmp 128]) rfl ?_); at_builtin; refine Kd.R_append Kd.bool (w0 := wc) wc.heap.size rfl (.tmp 124) (.tmp 128) 45 4 (.bool false) 1 rfl Try.underlying45 info4 rfl (by decide) (by omega) u14 x14 t' [.bool t'] (fun k_ => B ≤ k_) (fun _ => False) rfl rfl ?aP (fun _ hk => hk.elim) ?aF ?aO ?aB ?aS ?aL ?_; (case aP => exact rfl); (case aB => exact L.out.keep); (case aF => exact (fun k_ hk_ => Nat.le_trans BS.out hk_)); (case aO => exact HO.out); (case aS => exact L.out.keep.size); (case aL => have := LM.out; omega); intro v1 w1 ho hb hg hat; rw [HPB.out] at ho; have n0_ := asd ho; have n1_ := asd (L.out.grown hb hg (Kd.R_ne HO.out L.out.blk (by decide))); have n2_ := asd (Kd.S_after (ok := fun k_ => B ≤ k_) HS.out hg hat); have n3_ := asd (Kd.S_grown HY.out hg (fun k_ hk_ e_ => Nat.not_le.2 hk_ (HO.out.1 k_ e_.symm))); have n4_ := asd (Nat.le_trans BS.out hg.size); clear HO L HS HY BS ho hb hg hat; have HO := n0_; have L := n1_; have HS := n2_; have HY := n3_; have BS := n4_; clear n0_ n1_ n2_ n3_ n4_))
               go_roundg k2
               case measure => have := HK2.out; omega
               case rel => exact ⟨_, _, rfl, H', ⟨by have := HK2.out; omega⟩, HO, L, HS, HY, BS⟩
             ·rcases A2_ with ⟨d2, e2⟩ | ⟨d2, ad', e2, p2, q2, hx2⟩
              ·subst e1
               replace p1 := eq_true p1
               replace q1 := eq_true q1
               rw [e2] at HBB
               clear e2
               have HPB := asd (show t = b from (HBB.out.trans (Bool.bne_false t)).symm)
               clear HBB
               go_wp2_with (first | ((with_reducible refine gate_builtin (b := .append) (xs := #[.tmp 124, .tmp 128]) rfl ?_); at_builtin; refine Kd.R_append Kd.bool (w0 := wc) wc.heap.size rfl (.tmp 124) (.tmp 128) 45 4 (.bool false) 1 rfl Try.underlying45 info4 rfl (by decide) (by omega) u14 x14 t [.bool t] (fun k_ => B ≤ k_) (fun _ => False) rfl rfl ?aP (fun _ hk => hk.elim) ?aF ?aO ?aB ?aS ?aL ?_; (case aP => exact rfl); (case aB => exact L.out.keep); (case aF => exact (fun k_ hk_ => Nat.le_trans BS.out hk_)); (case aO => exact HO.out); (case aS => exact L.out.keep.size); (case aL => have := LM.out; omega); intro v1 w1 ho hb hg hat; rw [HPB.out] at ho; have n0_ := asd ho; have n1_ := asd (L.out.grown hb hg (Kd.R_ne HO.out L.out.blk (by decide))); have n2_ := asd (Kd.S_after (ok := fun k_ => B ≤ k_) HS.out hg hat); have n3_ := asd (Kd.S_grown HY.out hg (fun k_ hk_ e_ => Nat.not_le.2 hk_ (HO.out.1 k_ e_.symm))); have n4_ := asd (Nat.le_trans BS.out hg.size); clear HO L HS HY BS ho hb hg hat; have HO := n0_; have L := n1_; have HS := n2_; have HY := n3_; have BS := n4_; clear n0_ n1_ n2_ n3_ n4_))
               go_roundg k2
               case measure => have := HK2.out; omega
               case rel => exact ⟨_, _, rfl, H', ⟨by have := HK2.out; omega⟩, HO, L, HS, HY, BS⟩
              ·subst e1
               replace p1 := eq_true p1
               replace q1 := eq_true q1
               obtain rfl := Option.some.inj e2
               clear e2
               replace p2 := eq_true p2
               replace q2 := eq_true q2
               have HPB := asd (show (t != t') = b from HBB.out.symm)
               clear HBB
               go_wp2_with (first | ((with_reducible refine gate_builtin (b := .append) (xs := #[.tmp 124, .tmp 128]) rfl ?_); at_builtin; refine Kd.R_append Kd.bool (w0 := wc) wc.heap.size rfl (.tmp 124) (.tmp 128) 45 4 (.bool false) 1 rfl Try.underlying45 info4 rfl (by decide) (by omega) u14 x14 (t != t') [.bool (t != t')] (fun k_ => B ≤ k_) (fun _ => False) rfl rfl ?aP (fun _ hk => hk.elim) ?aF ?aO ?aB ?aS ?aL ?_; (case aP => exact rfl); (case aB => exact L.out.keep); (case aF => exact (fun k_ hk_ => Nat.le_trans BS.out hk_)); (case aO => exact HO.out); (case aS => exact L.out.keep.size); (case aL => have := LM.out; omega); intro v1 w1 ho hb hg hat; rw [HPB.out] at ho; have n0_ := asd ho; have n1_ := asd (L.out.grown hb hg (Kd.R_ne HO.out L.out.blk (by decide))); have n2_ := asd (Kd.S_after (ok := fun k_ => B ≤ k_) HS.out hg hat); have n3_ := asd (Kd.S_grown HY.out hg (fun k_ hk_ e_ => Nat.not_le.2 hk_ (HO.out.1 k_ e_.symm))); have n4_ := asd (Nat.le_trans BS.out hg.size); clear HO L HS HY BS ho hb hg hat; have HO := n0_; have L := n1_; have HS := n2_; have HY := n3_; have BS := n4_; clear n0_ n1_ n2_ n3_ n4_))
               go_roundg k2
               case measure => have := HK2.out; omega
               case rel => exact ⟨_, _, rfl, H', ⟨by have := HK2.out; omega⟩, HO, L, HS, HY, BS⟩
            ·rw [if_neg c7] at H; cases H
           ·rw [if_neg c6] at H
            have d6 : decide (x15 < a0) = false := decide_eq_false c6
            clear c6
            by_cases c8 : ys.length < 5864062014805
            ·rw [if_pos c8] at H
             have LM := asd c8
             clear c8
             have H' := asd H
             clear H
             obtain ⟨ao, co, eo⟩ := Kd.R_slice HO.out
             subst eo
             have hz := (blk_cell L.out.blk 3).trans rfl
             go_wp2_with (first | ((with_reducible refine gate_builtin (b := .append) (xs := #[.tmp 131, .tmp 133]) rfl ?_); at_builtin; refine Kd.S_append (Kd.slice 4 Kd.bool) (w0 := wc) wc.heap.size rfl (.tmp 131) (.tmp 133) 22 45 (.slice none 0 0) 24 rfl Try.underlying22 info45 rfl (by decide) (by omega) u ys x14 [.slice ao x14.length co] (fun k_ => B ≤ k_) (fun k_ => some k_ = (.slice ao x14.length co : Value).ownBlock) rfl rfl ?aP (fun k_ hk_ => ⟨HO.out.1 k_ hk_.symm, fun e_ => ((Kd.S_R HS.out).1 k_ e_.symm).2 hk_⟩) ?aF ?aO ?aB ?aS ?aL ?_; (case aP => exact Kd.M_row (Kd.R_tight rfl HO.out)); (case aB => exact L.out.keep); (case aF => exact (fun k_ hk_ => Nat.le_trans BS.out hk_)); (case aO => exact HS.out); (case aS => exact L.out.keep.size); (case aL => have := LM.out; omega); intro v1 w1 ho hb hg hat; have n0_ := asd ho; have n1_ := asd (L.out.grown hb hg (Kd.S_ne HS.out L.out.blk (by decide))); have n2_ := asd (Kd.S_grown HY.out hg (fun k_ hk_ e_ => Nat.not_le.2 hk_ ((Kd.S_R HS.out).1 k_ e_.symm).1)); have n3_ := asd (Nat.le_trans BS.out hg.size); clear HO L HS HY BS ho hb hg hat hz; have HS := n0_; have L := n1_; have HY := n2_; have BS := n3_; clear n0_ n1_ n2_ n3_; obtain ⟨ao1, co1, eo1⟩ := Kd.S_slice HS.out; subst eo1; have hz := (blk_cell L.out.blk 3).trans rfl; have hf := blk_frozen L.out.blk 3))
             go_roundg k2
             case measure => have := HK1.out; have := HK2.out; omega
             case rel => exact ⟨_, ys ++ [x14], .slice ao1 (ys.length + 1) co1, rfl, H', ⟨by have := HK1.out; have := HK2.out; omega⟩, ⟨L.out.set_ G7.out 3 _ rfl⟩, ⟨by have h_ := Kd.S_set HS.out L.out.blk (by intro q hq; simp [Kd.slice, Kd.bool, Kd.scalar] at hq; omega) 3 (.slice ao1 (ys.length + 1) co1); rw [List.length_append] at h_; exact h_⟩, ⟨Kd.S_set HY.out L.out.blk (by intro q hq; simp [Kd.slice, Kd.bool, Kd.scalar] at hq; omega) 3 _⟩, ⟨by simpa [World.setCell] using BS.out⟩⟩
            ·rw [if_neg c8] at H; cases H
        ·rw [if_neg c5] at H
         have d5 : decide (x13 ≤ a1) = false := decide_eq_false c5
         clear c5
         simp only [Option.some.injEq, Prod.mk.injEq] at H
         obtain ⟨rfl, rfl, rfl, rfl⟩ := H
         obtain ⟨az, cz, ez⟩ := Kd.S_slice HS.out
         subst ez
         have q0 : wr.cell? ⟨g7, 0, none⟩ = some (.int .i64 a0) := (blk_cell L.out.blk 0).trans rfl
         have q1 : wr.cell? ⟨g7, 1, none⟩ = some (.int .i64 a1) := (blk_cell L.out.blk 1).trans rfl
         have q2 : wr.cell? ⟨g7, 2, none⟩ = some (.slice ay xs.length cy) := (blk_cell L.out.blk 2).trans rfl
         have q3 : wr.cell? ⟨g7, 3, none⟩ = some (.slice az ys.length cz) := (blk_cell L.out.blk 3).trans rfl
         have E6 := asd (blk_below B6.out L.out.keep)
         have hcz0 : wr.cell? ⟨g6, 0, none⟩ = some (.int .i64 0) := (blk_cell E6.out 0).trans rfl
         have hcz1 : wr.cell? ⟨g6, 1, none⟩ = some (.int .i64 0) := (blk_cell E6.out 1).trans rfl
         have hcz2 : wr.cell? ⟨g6, 2, none⟩ = some (.slice none 0 0) := (blk_cell E6.out 2).trans rfl
         have hcz3 : wr.cell? ⟨g6, 3, none⟩ = some (.slice none 0 0) := (blk_cell E6.out 3).trans rfl
         have hfz0 := blk_frozen E6.out 0
         have hfz1 := blk_frozen E6.out 1
         have hfz2 := blk_frozen E6.out 2
         have hfz3 := blk_frozen E6.out 3
         go_wp2
         refine bodyPost_ret (results_cell_row rfl _ _ g6 27 #[.int .i64 a0, .int .i64 a1, .slice ay xs.length cy, .slice az ys.length cz] (0, 0) _ rfl (by refine blk_put (cs := #[.int .i64 a0, .int .i64 a1, .slice ay xs.length cy, .slice none 0 0]) ?_ 3 _ rfl; refine blk_put (cs := #[.int .i64 a0, .int .i64 a1, .slice none 0 0, .slice none 0 0]) ?_ 2 _ rfl; refine blk_put (cs := #[.int .i64 a0, .int .i64 0, .slice none 0 0, .slice none 0 0]) ?_ 1 _ rfl; refine blk_put (cs := #[.int .i64 0, .int .i64 0, .slice none 0 0, .slice none 0 0]) ?_ 0 _ rfl; exact E6.out) hu40 rfl (by kernel_rfl)) rfl ?_
         have s0 : w.heap.size ≤ wc.heap.size := HZ.out.1
         refine ⟨_, _, B, rfl, ?_, ?_, ?_⟩
         ·exact Kd.S_mono (Kd.S_lower (Kd.S_far (Kd.S_far (Kd.S_far (Kd.S_far (Kd.S_mono (Kd.S_bound HY.out) (ok' := fun k_ => k_ < B ∧ k_ ≠ g6) (fun k_ hk_ => ⟨hk_.1, by have := hk_.2.1; have := HZ.out; omega⟩)) (fun _ h_ => h_.2) _) (fun _ h_ => h_.2) _) (fun _ h_ => h_.2) _) (fun _ h_ => h_.2) _) s0) (fun k_ hk_ => hk_.1)
         ·exact Kd.S_mono (Kd.S_lower (Kd.S_far (Kd.S_far (Kd.S_far (Kd.S_far (Kd.S_mono (Kd.S_bound HS.out) (ok' := fun k_ => B ≤ k_ ∧ k_ ≠ g6) (fun k_ hk_ => ⟨hk_.1, by have := hk_.2.1; have := HZ.out; omega⟩)) (fun _ h_ => h_.2) _) (fun _ h_ => h_.2) _) (fun _ h_ => h_.2) _) (fun _ h_ => h_.2) _) s0) (fun k_ hk_ => hk_.1)
         ·exact below_set (below_set (below_set (below_set (L.out.low HB.out) GE.out) GE.out) GE.out) GE.out
theorem spec_LoopAround.calls (k : Nat) (a0 : Int) (a1 : Int) (A2 : Option Addr) (c2 : Nat) (l2 : List Bool) (r1 : Int) (r2 : Int) (r3 : List (List Bool)) (r4 : List (List Bool)) (w : World) (hr2 : Kd.C Kd.bool w A2 l2.length l2) (hc2 : l2.length ≤ c2) (h : spec_LoopAround.f k a0 a1 l2 = some (r1, r2, r3, r4)) :
  Calls Try.prog 42 #[.int .i64 a0, .int .i64 a1, .slice A2 l2.length c2] w fun e w' => ∃ v2_ v3_ : Value, e = .returned (.agg #[.int .i64 r1, .int .i64 r2, v2_, v3_]) ∧ Kd.S (Kd.slice 4 Kd.bool) 45 w' w.heap.size (fun k_ => some k_ ≠ (v3_ : Value).ownBlock) v2_ r3 ∧ Kd.S (Kd.slice 4 Kd.bool) 45 w' w.heap.size (fun k_ => some k_ ≠ (v2_ : Value).ownBlock) v3_ r4 ∧ Below w.heap.size w w' :=
 (spec_LoopAround.callsB k a0 a1 A2 c2 l2 r1 r2 r3 r4 w hr2 hc2 h).mono fun e w' ⟨v2_, v3_, B, he, h2, h3, hb⟩ => ⟨v2_, v3_, he, Kd.S_mono h2 (fun k_ hk_ e_ => Nat.not_le.2 hk_ ((Kd.S_R h3).1 k_ e_.symm)), Kd.S_mono h3 (fun k_ hk_ e_ => Nat.not_le.2 ((Kd.S_R h2).1 k_ e_.symm) hk_), hb⟩

end Go.Proofs.Ytdinbpfklikghaa.PLoops
