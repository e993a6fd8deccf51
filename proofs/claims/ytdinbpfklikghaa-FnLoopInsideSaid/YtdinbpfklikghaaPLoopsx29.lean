/- Functions of the program, and what a call comes to. No conditions. -/
import Derived.Test.YtdinbpfklikghaaPLoopsx0
import Derived.Test.YtdinbpfklikghaaPLoopsx25
import Derived.Test.YtdinbpfklikghaaPLoopsx26
import Derived.Test.YtdinbpfklikghaaPLoopsx27
import Derived.Test.YtdinbpfklikghaaPLoopsx28
namespace Go.Proofs.Ytdinbpfklikghaa.PLoops
open Go.RowKit Go.Proofs.YtdinbpfklikghaaW.PrintWords Go.Proofs.YtdinbpfklikghaaW.PrintLast Go.Proofs.YtdinbpfklikghaaW.PrintMore
set_option linter.unusedVariables false
set_option linter.unusedSimpArgs false

/-! ### spec_l20Loop: function 80 -/
def spec_l20Loop.j0 : Nat → Int → List Int → Int → Int → Int → List (List Bool) → List (List Bool) → Option (Int × Int × (List (List Bool)) × (List (List Bool)) × Int)
 | 0, _, _, _, _, _, _, _ => none
 | k + 1, x1, x1000, x1001, x307000, x307001, x307002, x307003 => (spec_l20Rd_odd.f k x1000 x1001 x1).bind fun bt319 => (if bt319.1 = true then ((spec_l20Rd_pick.f k x1000 bt319.2 4).bind fun bt321 => (if bt321.1 = 0 then ((some (([0, 5] : List Int) : List Int)).bind fun y323 => ((spec_l20Rd_pick.f k x1000 bt321.2 2).bind fun bt326 => (if 0 ≤ bt326.1 then (if bt326.1 < (y323.length : Int) then (some (rd y323 bt326.1, x307001, x307002, x307003, bt326.2)) else (none)) else (none)))) else (if bt321.1 = 1 then (if 1 ≤ (x307002.length : Int) then (some (x307000, x307001, (x307002.drop (1 : Int).toNat), x307003, bt321.2)) else (none)) else (if bt321.1 = 2 then (if x307003.length < 5864062014805 then (some (x307000, x307001, x307002, (x307003 ++ [(([] : List Bool))]), bt321.2)) else (none)) else (if 0 < (x307003.length : Int) then (if (rd_L1 x307003 0).length < 140737488355328 then (some (x307000, x307001, x307002, (x307003.set (0 : Int).toNat ((rd_L1 x307003 0) ++ [true])), bt321.2)) else (none)) else (none)))))) else (some (x307000, x307001, x307002, x307003, bt319.2)))
def spec_l20Loop.f (k : Nat) (s0_0 : List Int) (s0_1 : Int) (a1 : Int) : Option (Int × Int × (List (List Bool)) × (List (List Bool)) × Int) := (spec_l20Inside.f k s0_0 s0_1).bind fun bt292 => ((spec_LoopAround.f k bt292.1 bt292.2.1 bt292.2.2.1).bind fun bt298 => ((spec_l20Rd_odd.f k s0_0 bt292.2.2.2 4).bind fun bt307 => (if bt307.1 = true then ((spec_l20Rd_pick.f k s0_0 bt307.2 (wrap64 (bt292.1 + 1))).bind fun bt309 => (if 0 ≤ bt309.1 then (if bt309.1 < (bt298.2.2.1.length : Int) then ((spec_l20Rd_pick.f k s0_0 bt309.2 bt292.2.1).bind fun bt312 => ((spec_l20Rd_pick.f k s0_0 bt312.2 2).bind fun bt314 => (if 0 ≤ bt312.1 then (if bt312.1 < ((rd_L1 bt298.2.2.1 bt309.1).length : Int) then (spec_l20Loop.j0 k a1 s0_0 bt314.2 bt298.1 bt298.2.1 (bt298.2.2.1.set (bt309.1 : Int).toNat ((rd_L1 bt298.2.2.1 bt309.1).set (bt312.1 : Int).toNat (bt314.1 == 0))) bt298.2.2.2) else (none)) else (none)))) else (none)) else (none))) else (spec_l20Loop.j0 k a1 s0_0 bt307.2 bt298.1 bt298.2.1 bt298.2.2.1 bt298.2.2.2))))
theorem spec_l20Loop.mono_l : ∀ k, (∀ y0 y1 y2 y3 y4 y5 y6, LeO (spec_l20Loop.j0 k y0 y1 y2 y3 y4 y5 y6) (spec_l20Loop.j0 (k + 1) y0 y1 y2 y3 y4 y5 y6))
 | 0 => fun _ _ _ _ _ _ _ r h => by simp [spec_l20Loop.j0] at h
 | k + 1 => by
  have ih0 := spec_l20Loop.mono_l k
  ·intro y0 y1 y2 y3 y4 y5 y6
   unfold spec_l20Loop.j0
   repeat' first | (with_reducible first | exact ih0 _ _ _ _ _ _ _ | exact spec_LoopAround.mono _ _ _ _ | exact spec_l20Inside.mono _ _ _ | exact spec_l20Rd_odd.mono _ _ _ _ | exact spec_l20Rd_pick.mono _ _ _ _ | exact LeO.refl _ | exact LeO.none _ | refine LeO.ite ?_ ?_ | refine LeO.bind ?_ (fun _ => ?_)) | exact LeO.none _ | refine LeO.ite ?_ ?_ | refine LeO.bind ?_ (fun _ => ?_)
theorem spec_l20Loop.mono : ∀ a0 a1 a2 k, LeO (spec_l20Loop.f k a0 a1 a2) (spec_l20Loop.f (k + 1) a0 a1 a2) := by
 intro a0 a1 a2 k
 have ih0 := spec_l20Loop.mono_l k
 unfold spec_l20Loop.f
 repeat' first | (with_reducible first | exact ih0 _ _ _ _ _ _ _ | exact spec_LoopAround.mono _ _ _ _ | exact spec_l20Inside.mono _ _ _ | exact spec_l20Rd_odd.mono _ _ _ _ | exact spec_l20Rd_pick.mono _ _ _ _ | exact LeO.refl _ | exact LeO.none _ | refine LeO.ite ?_ ?_ | refine LeO.bind ?_ (fun _ => ?_)) | exact LeO.none _ | refine LeO.ite ?_ ?_ | refine LeO.bind ?_ (fun _ => ?_)
def spec_l20Loop.T4 : Bool × List (List Nat × List Nat) := (true, [([], []), ([0], [0]), ([], []), ([], []), ([3], [3]), ([2, 4], [2, 4]), ([1, 5], [1, 5]), ([6], [6]), ([], []), ([], []), ([8, 9, 5], [8, 9]), ([], []), ([11, 10], [11]), ([12], [12]), ([7, 10, 0, 1, 2, 3, 4, 5, 6, 7, 8, 9, 10, 11, 12, 13], [7, 10]), ([14, 13, 12, 0, 1, 2, 3, 4, 5, 6, 7, 8, 9, 10, 11, 12, 13], [13, 14])])
def spec_l20Loop.B4 : List Nat := [0, 1, 0, 0, 8, 28, 63, 127, 0, 0, 828, 0, 3900, 7996, 16383, 32767]
theorem spec_l20Loop.tab4 : rtab .any (opsOf Try.f80 4) = spec_l20Loop.T4 := by kernel_rfl
theorem spec_l20Loop.bits4 : waitsOk spec_l20Loop.T4.2 spec_l20Loop.B4 = true := by kernel_rfl
def spec_l20Loop.T7 : Bool × List (List Nat × List Nat) := (true, [([], []), ([0], [0]), ([], []), ([2], [2]), ([3], [3]), ([4], [4]), ([], []), ([5, 6], [5, 6]), ([1, 0, 1, 2, 3, 4, 5, 6, 7], [1]), ([8, 7, 7, 0, 1, 2, 3, 4, 5, 6, 7], [7, 8])])
def spec_l20Loop.B7 : List Nat := [0, 1, 0, 4, 12, 28, 0, 124, 255, 511]
theorem spec_l20Loop.tab7 : rtab .any (opsOf Try.f80 7) = spec_l20Loop.T7 := by kernel_rfl
theorem spec_l20Loop.bits7 : waitsOk spec_l20Loop.T7.2 spec_l20Loop.B7 = true := by kernel_rfl
set_option maxHeartbeats 8000000 in
set_option maxRecDepth 100000 in
theorem spec_l20Loop.calls (k : Nat) (g : Nat) (s0_0 : List Int) (s0_1 : Int) (a1 : Int) (r1 : Int) (r2 : Int) (r3 : List (List Bool)) (r4 : List (List Bool)) (r5 : Int) (w0 w : World) (hI : IsS95 w0 w g s0_0 s0_1) (hB : Below w0.heap.size w0 w) (h : spec_l20Loop.f k s0_0 s0_1 a1 = some (r1, r2, r3, r4, r5)) :
  Calls Try.prog 80 #[.pointer (some ⟨g, 0, none⟩), .int .i64 a1] w fun e w' => ∃ v2_ v3_ : Value, e = .returned (.agg #[.int .i64 r1, .int .i64 r2, v2_, v3_]) ∧ Kd.Q (Kd.slice 4 Kd.bool) 45 w' w.heap.size (fun k_ => some k_ ≠ (v3_ : Value).ownBlock) v2_ r3 ∧ Kd.S (Kd.slice 4 Kd.bool) 45 w' w.heap.size (fun k_ => some k_ ≠ (v2_ : Value).ownBlock) v3_ r4 ∧ IsS95 w0 w' g s0_0 r5 ∧ Below w0.heap.size w0 w' ∧ KeepBut w w' g none := by
 have hu27 := Try.underlying27
 have HI0 := asd hI
 have HK := asd (KeepBut.refl w g none)
 have HL := asd hB.size
 clear hI
 have HW0 := asd hB.size
 have HB := asd hB
 clear hB
 have H : ((spec_l20Inside.f k s0_0 s0_1).bind fun bt292 => ((spec_LoopAround.f k bt292.1 bt292.2.1 bt292.2.2.1).bind fun bt298 => ((spec_l20Rd_odd.f k s0_0 bt292.2.2.2 4).bind fun bt307 => (if bt307.1 = true then ((spec_l20Rd_pick.f k s0_0 bt307.2 (wrap64 (bt292.1 + 1))).bind fun bt309 => (if 0 ≤ bt309.1 then (if bt309.1 < (bt298.2.2.1.length : Int) then ((spec_l20Rd_pick.f k s0_0 bt309.2 bt292.2.1).bind fun bt312 => ((spec_l20Rd_pick.f k s0_0 bt312.2 2).bind fun bt314 => (if 0 ≤ bt312.1 then (if bt312.1 < ((rd_L1 bt298.2.2.1 bt309.1).length : Int) then (spec_l20Loop.j0 k a1 s0_0 bt314.2 bt298.1 bt298.2.1 (bt298.2.2.1.set (bt309.1 : Int).toNat ((rd_L1 bt298.2.2.1 bt309.1).set (bt312.1 : Int).toNat (bt314.1 == 0))) bt298.2.2.2) else (none)) else (none)))) else (none)) else (none))) else (spec_l20Loop.j0 k a1 s0_0 bt307.2 bt298.1 bt298.2.1 bt298.2.2.1 bt298.2.2.2))))) = some (r1, r2, r3, r4, r5) := h
 clear h
 replace H := Option.bind_eq_some_iff.mp H
 obtain ⟨⟨t292, t293, t294, t297⟩, A30, H⟩ := H
 replace H : ((spec_LoopAround.f k t292 t293 t294).bind fun bt298 => ((spec_l20Rd_odd.f k s0_0 t297 4).bind fun bt307 => (if bt307.1 = true then ((spec_l20Rd_pick.f k s0_0 bt307.2 (wrap64 (t292 + 1))).bind fun bt309 => (if 0 ≤ bt309.1 then (if bt309.1 < (bt298.2.2.1.length : Int) then ((spec_l20Rd_pick.f k s0_0 bt309.2 t293).bind fun bt312 => ((spec_l20Rd_pick.f k s0_0 bt312.2 2).bind fun bt314 => (if 0 ≤ bt312.1 then (if bt312.1 < ((rd_L1 bt298.2.2.1 bt309.1).length : Int) then (spec_l20Loop.j0 k a1 s0_0 bt314.2 bt298.1 bt298.2.1 (bt298.2.2.1.set (bt309.1 : Int).toNat ((rd_L1 bt298.2.2.1 bt309.1).set (bt312.1 : Int).toNat (bt314.1 == 0))) bt298.2.2.2) else (none)) else (none)))) else (none)) else (none))) else (spec_l20Loop.j0 k a1 s0_0 bt307.2 bt298.1 bt298.2.1 bt298.2.2.1 bt298.2.2.2)))) = some (r1, r2, r3, r4, r5) := H
 have A3 := asd A30
 clear A30
 replace H := Option.bind_eq_some_iff.mp H
 obtain ⟨⟨t298, t299, t300, t303⟩, A40, H⟩ := H
 replace H : ((spec_l20Rd_odd.f k s0_0 t297 4).bind fun bt307 => (if bt307.1 = true then ((spec_l20Rd_pick.f k s0_0 bt307.2 (wrap64 (t292 + 1))).bind fun bt309 => (if 0 ≤ bt309.1 then (if bt309.1 < (t300.length : Int) then ((spec_l20Rd_pick.f k s0_0 bt309.2 t293).bind fun bt312 => ((spec_l20Rd_pick.f k s0_0 bt312.2 2).bind fun bt314 => (if 0 ≤ bt312.1 then (if bt312.1 < ((rd_L1 t300 bt309.1).length : Int) then (spec_l20Loop.j0 k a1 s0_0 bt314.2 t298 t299 (t300.set (bt309.1 : Int).toNat ((rd_L1 t300 bt309.1).set (bt312.1 : Int).toNat (bt314.1 == 0))) t303) else (none)) else (none)))) else (none)) else (none))) else (spec_l20Loop.j0 k a1 s0_0 bt307.2 t298 t299 t300 t303))) = some (r1, r2, r3, r4, r5) := H
 have A4 := asd A40
 clear A40
 replace H := Option.bind_eq_some_iff.mp H
 obtain ⟨⟨t307, t308⟩, A50, H⟩ := H
 replace H : (if t307 = true then ((spec_l20Rd_pick.f k s0_0 t308 (wrap64 (t292 + 1))).bind fun bt309 => (if 0 ≤ bt309.1 then (if bt309.1 < (t300.length : Int) then ((spec_l20Rd_pick.f k s0_0 bt309.2 t293).bind fun bt312 => ((spec_l20Rd_pick.f k s0_0 bt312.2 2).bind fun bt314 => (if 0 ≤ bt312.1 then (if bt312.1 < ((rd_L1 t300 bt309.1).length : Int) then (spec_l20Loop.j0 k a1 s0_0 bt314.2 t298 t299 (t300.set (bt309.1 : Int).toNat ((rd_L1 t300 bt309.1).set (bt312.1 : Int).toNat (bt314.1 == 0))) t303) else (none)) else (none)))) else (none)) else (none))) else (spec_l20Loop.j0 k a1 s0_0 t308 t298 t299 t300 t303)) = some (r1, r2, r3, r4, r5) := H
 have A5 := asd A50
 clear A50
 have HC6 := asd H
 clear H
 go_enter Try.func80, Try.ntmps80
 go_upto_if 20 with (first | ((with_reducible refine gate_dst (N := 4) rfl ?_); refine box_event ?hg (N := 4) ?hd (cs := #[.int .i64 0, .int .i64 0, .slice none 0 0, .slice none 0 0]) (t := 27) ?hr ?_; (case hd => rfl); (case hg => rfl); (case hr => first | (go_simp; done) | (go_simp; rfl)); intro gb291 hg w7 hbox hb; have n0_ := asd (IsS95.below (by repeat (first | (with_reducible first | exact HI0.out | apply IsS95.alloc | apply IsS95.drewN | apply IsS95.drew | apply IsS95.set_1) | exact HI0.out)) hb); have n1_ := asd (KeepBut.trans (by repeat (first | (with_reducible first | exact HK.out | apply KeepBut.set_ | apply keep_drewN | apply keep_drew | apply keep_alloc) | exact HK.out)) (KeepBut.of_below hb g none) (.inl rfl)); have n2_ := asd (below_step (by repeat (first | (with_reducible first | exact HB.out | apply below_alloc | apply pw_below_drewN | apply below_drew1 | refine below_set ?_ (IsS95.ge HI0.out)) | exact HB.out)) hb); have n3_ := asd (hbox); have n4_ := asd ((by rw [hg]; exact (keep_size (w := w) (g := g) (row := none) (by repeat (first | (with_reducible first | exact HK.out | apply KeepBut.set_ | apply keep_drewN | apply keep_drew | apply keep_alloc) | exact HK.out))) : w.heap.size ≤ gb291)); have n5_ := asd ((Nat.le_trans HW0.out (by rw [hg]; exact (keep_size (w := w) (g := g) (row := none) (by repeat (first | (with_reducible first | exact HK.out | apply KeepBut.set_ | apply keep_drewN | apply keep_drew | apply keep_alloc) | exact HK.out))) : w.heap.size ≤ gb291) : w0.heap.size ≤ gb291)); have n6_ := asd ((by rw [hg]; exact Nat.ne_of_lt (IsS95.lt (show IsS95 w0 _ g s0_0 s0_1 from by repeat (first | (with_reducible first | exact HI0.out | apply IsS95.alloc | apply IsS95.drewN | apply IsS95.drew | apply IsS95.set_1) | exact HI0.out))) : g ≠ gb291)); have n7_ := asd ((by rw [hg]; exact Nat.ne_of_gt (IsS95.lt (show IsS95 w0 _ g s0_0 s0_1 from by repeat (first | (with_reducible first | exact HI0.out | apply IsS95.alloc | apply IsS95.drewN | apply IsS95.drew | apply IsS95.set_1) | exact HI0.out))) : gb291 ≠ g)); clear HI0 HK HB; have HI0 := n0_; have HK := n1_; have HB := n2_; have BK291 := n3_; have GW291 := n4_; have GE291 := n5_; have NB0_291 := n6_; have NB291_0 := n7_; clear n0_ n1_ n2_ n3_ n4_ n5_ n6_ n7_; clear hb hbox hg) | ((with_reducible refine gate_callee (f := 84) rfl ?_); refine goesL_ (some 11) rfl rfl Try.func84 (by kernel_rfl) rfl #[.pointer (some ⟨g, 0, none⟩)] rfl (by (try simp only [List.map_toArray, List.map_cons, List.map_nil]); first | done | rfl | (simp only [List.length_drop, List.length_take]; rfl)) ?_; (with_reducible refine (spec_l20Inside.calls k g s0_0 s0_1 t292 t293 t294 t297 w0 _ ?side1 ?side2 A3.out).mono ?_); (case side1 => repeat (first | (with_reducible first | exact HI0.out | apply IsS95.alloc | apply IsS95.drewN | apply IsS95.drew | apply IsS95.set_1 | refine IsS95.far ?_ NB0_291.out _) | exact HI0.out)); (case side2 => repeat (first | (with_reducible first | exact HB.out | apply below_alloc | apply pw_below_drewN | apply below_drew1 | refine below_set ?_ (IsS95.ge HI0.out) | refine below_set ?_ GE291.out) | exact HB.out)); rintro e w8 ⟨v295, rfl, ho0, hi, hb, hk⟩; refine ⟨_, rfl, ?_⟩; have n0_ := asd (KeepBut.blk hk (g' := gb291) (o := .cells #[.int .i64 0, .int .i64 0, .slice none 0 0, .slice none 0 0] 27 (0, 0)) (by (with_reducible repeat (first | refine blk_drewN ?_ _ | refine blk_drew ?_ | refine blk_alloc ?_ _)); exact BK291.out) NB291_0.out (by simp)); have n1_ := asd (Kd.R_lower ho0 (keep_size (w := w) (g := g) (row := none) (by repeat (first | (with_reducible first | exact HK.out | apply KeepBut.set_ | apply keep_drewN | apply keep_drew | apply keep_alloc | refine keep_far ?_ GW291.out _) | exact HK.out)))); have n2_ := asd (KeepBut.trans (by repeat (first | (with_reducible first | exact HK.out | apply KeepBut.set_ | apply keep_drewN | apply keep_drew | apply keep_alloc | refine keep_far ?_ GW291.out _) | exact HK.out)) hk (.inl rfl)); have n3_ := asd (hb); have n4_ := asd (hi); clear BK291 HK HB HI0; have BK291 := n0_; have HO296 := n1_; have HK := n2_; have HB := n3_; have HI0 := n4_; clear n0_ n1_ n2_ n3_ n4_; (try clear ho0); obtain ⟨Ao9, co9, eo9⟩ := Kd.R_slice HO296.out; subst eo9) | ((with_reducible refine gate_callee (f := 42) rfl ?_); refine goesL_ (some 18) rfl rfl Try.func42 (by kernel_rfl) rfl #[.int .i64 t292, .int .i64 t293, .slice Ao9 t294.length co9] rfl (by (try simp only [List.map_toArray, List.map_cons, List.map_nil]); first | done | rfl | (simp only [List.length_drop, List.length_take]; rfl)) ?_; (with_reducible refine (spec_LoopAround.callsB k t292 t293 _ _ t294 t298 t299 t300 t303 _ ?side1 ?side2 A4.out).mono ?_); (case side1 => repeat (first | exact (Kd.R_reads' HO296.out).2.2 | (with_reducible refine Kd.C_alloc ?_ _) | (with_reducible refine Kd.C_drewN ?_ _) | (with_reducible refine Kd.C_drew ?_))); (case side2 => exact (Kd.R_reads' HO296.out).2.1); rintro e w10 ⟨v301, v304, B_, rfl, hoA_, hoD_, hb⟩; refine ⟨_, rfl, ?_⟩; have ho0 := Kd.S_mono (ok' := fun k_ => some k_ ≠ (v304 : Value).ownBlock ∧ k_ < B_) hoA_ (fun k_ hk_ => ⟨fun e_ => Nat.not_le.2 hk_ ((Kd.S_R hoD_).1 k_ e_.symm), hk_⟩); have ho1 := Kd.S_mono (ok' := fun k_ => some k_ ≠ (v301 : Value).ownBlock ∧ B_ ≤ k_) hoD_ (fun k_ hk_ => ⟨fun e_ => Nat.not_le.2 ((Kd.S_R hoA_).1 k_ e_.symm) hk_, hk_⟩); clear hoA_ hoD_; have n0_ := asd (Kd.R_below (by (with_reducible repeat (first | apply Kd.R_alloc | apply Kd.R_drewN | apply Kd.R_drew)); exact HO296.out) hb); have n1_ := asd (Kd.S_lower (Kd.S_new' ho0 (Kd.R_lt (by (with_reducible repeat (first | apply Kd.R_alloc | apply Kd.R_drewN | apply Kd.R_drew)); exact HO296.out))) (keep_size (w := w) (g := g) (row := none) (by repeat (first | (with_reducible first | exact HK.out | apply KeepBut.set_ | apply keep_drewN | apply keep_drew | apply keep_alloc | refine keep_far ?_ GW291.out _) | exact HK.out)))); have n2_ := asd (Kd.S_lower (Kd.S_new' ho1 (Kd.R_lt (by (with_reducible repeat (first | apply Kd.R_alloc | apply Kd.R_drewN | apply Kd.R_drew)); exact HO296.out))) (keep_size (w := w) (g := g) (row := none) (by repeat (first | (with_reducible first | exact HK.out | apply KeepBut.set_ | apply keep_drewN | apply keep_drew | apply keep_alloc | refine keep_far ?_ GW291.out _) | exact HK.out)))); have n3_ := asd (IsS95.below (by repeat (first | (with_reducible first | exact HI0.out | apply IsS95.alloc | apply IsS95.drewN | apply IsS95.drew | apply IsS95.set_1 | refine IsS95.far ?_ NB0_291.out _) | exact HI0.out)) hb); have n4_ := asd (blk_below (g := gb291) (o := .cells #[.int .i64 0, .int .i64 0, .slice none 0 0, .slice none 0 0] 27 (0, 0)) (by (with_reducible repeat (first | refine blk_drewN ?_ _ | refine blk_drew ?_ | refine blk_alloc ?_ _)); exact BK291.out) hb); have n5_ := asd (KeepBut.trans (by repeat (first | (with_reducible first | exact HK.out | apply KeepBut.set_ | apply keep_drewN | apply keep_drew | apply keep_alloc | refine keep_far ?_ GW291.out _) | exact HK.out)) (KeepBut.of_below hb g none) (.inl rfl)); have n6_ := asd (below_step (by repeat (first | (with_reducible first | exact HB.out | apply below_alloc | apply pw_below_drewN | apply below_drew1 | refine below_set ?_ (IsS95.ge HI0.out) | refine below_set ?_ GE291.out) | exact HB.out)) hb); clear HO296 HI0 BK291 HK HB; have HO296 := n0_; have HO302 := n1_; have HO305 := n2_; have HI0 := n3_; have BK291 := n4_; have HK := n5_; have HB := n6_; clear n0_ n1_ n2_ n3_ n4_ n5_ n6_; (try clear ho0); (try clear ho1)) | ((with_reducible refine gate_dst (N := 8) rfl ?_); refine box_event ?hg (N := 8) ?hd (cs := #[.int .i64 0, .int .i64 0, .slice none 0 0, .slice none 0 0]) (t := 27) ?hr ?_; (case hd => rfl); (case hg => rfl); (case hr => first | (go_simp; done) | (go_simp; rfl)); intro gb306 hg w11 hbox hb; have n0_ := asd (Kd.R_below (by (with_reducible repeat (first | apply Kd.R_alloc | apply Kd.R_drewN | apply Kd.R_drew)); exact HO296.out) hb); have n1_ := asd (Kd.S_below (by (with_reducible repeat (first | apply Kd.S_alloc | apply Kd.S_drewN | apply Kd.S_drew)); exact HO302.out) hb); have n2_ := asd (Kd.S_below (by (with_reducible repeat (first | apply Kd.S_alloc | apply Kd.S_drewN | apply Kd.S_drew)); exact HO305.out) hb); have n3_ := asd (IsS95.below (by repeat (first | (with_reducible first | exact HI0.out | apply IsS95.alloc | apply IsS95.drewN | apply IsS95.drew | apply IsS95.set_1 | refine IsS95.far ?_ NB0_291.out _) | exact HI0.out)) hb); have n4_ := asd (blk_below (g := gb291) (o := .cells #[.int .i64 0, .int .i64 0, .slice none 0 0, .slice none 0 0] 27 (0, 0)) (by (with_reducible repeat (first | refine blk_drewN ?_ _ | refine blk_drew ?_ | refine blk_alloc ?_ _)); exact BK291.out) hb); have n5_ := asd (KeepBut.trans (by repeat (first | (with_reducible first | exact HK.out | apply KeepBut.set_ | apply keep_drewN | apply keep_drew | apply keep_alloc | refine keep_far ?_ GW291.out _) | exact HK.out)) (KeepBut.of_below hb g none) (.inl rfl)); have n6_ := asd (below_step (by repeat (first | (with_reducible first | exact HB.out | apply below_alloc | apply pw_below_drewN | apply below_drew1 | refine below_set ?_ (IsS95.ge HI0.out) | refine below_set ?_ GE291.out) | exact HB.out)) hb); have n7_ := asd (hbox); have n8_ := asd ((by rw [hg]; exact (keep_size (w := w) (g := g) (row := none) (by repeat (first | (with_reducible first | exact HK.out | apply KeepBut.set_ | apply keep_drewN | apply keep_drew | apply keep_alloc | refine keep_far ?_ GW291.out _) | exact HK.out))) : w.heap.size ≤ gb306)); have n9_ := asd ((Nat.le_trans HW0.out (by rw [hg]; exact (keep_size (w := w) (g := g) (row := none) (by repeat (first | (with_reducible first | exact HK.out | apply KeepBut.set_ | apply keep_drewN | apply keep_drew | apply keep_alloc | refine keep_far ?_ GW291.out _) | exact HK.out))) : w.heap.size ≤ gb306) : w0.heap.size ≤ gb306)); have n10_ := asd ((by rw [hg]; exact Nat.ne_of_lt (blk_lt (g := gb291) (o := .cells #[.int .i64 0, .int .i64 0, .slice none 0 0, .slice none 0 0] 27 (0, 0)) (by (with_reducible repeat (first | refine blk_drewN ?_ _ | refine blk_drew ?_ | refine blk_alloc ?_ _)); exact BK291.out)) : gb291 ≠ gb306)); have n11_ := asd ((by rw [hg]; exact Nat.ne_of_gt (blk_lt (g := gb291) (o := .cells #[.int .i64 0, .int .i64 0, .slice none 0 0, .slice none 0 0] 27 (0, 0)) (by (with_reducible repeat (first | refine blk_drewN ?_ _ | refine blk_drew ?_ | refine blk_alloc ?_ _)); exact BK291.out)) : gb306 ≠ gb291)); have n12_ := asd ((by rw [hg]; exact Nat.ne_of_lt (IsS95.lt (show IsS95 w0 _ g s0_0 t297 from by repeat (first | (with_reducible first | exact HI0.out | apply IsS95.alloc | apply IsS95.drewN | apply IsS95.drew | apply IsS95.set_1 | refine IsS95.far ?_ NB0_291.out _) | exact HI0.out))) : g ≠ gb306)); have n13_ := asd ((by rw [hg]; exact Nat.ne_of_gt (IsS95.lt (show IsS95 w0 _ g s0_0 t297 from by repeat (first | (with_reducible first | exact HI0.out | apply IsS95.alloc | apply IsS95.drewN | apply IsS95.drew | apply IsS95.set_1 | refine IsS95.far ?_ NB0_291.out _) | exact HI0.out))) : gb306 ≠ g)); clear HO296 HO302 HO305 HI0 BK291 HK HB; have HO296 := n0_; have HO302 := n1_; have HO305 := n2_; have HI0 := n3_; have BK291 := n4_; have HK := n5_; have HB := n6_; have BK306 := n7_; have GW306 := n8_; have GE306 := n9_; have NB291_306 := n10_; have NB306_291 := n11_; have NB0_306 := n12_; have NB306_0 := n13_; clear n0_ n1_ n2_ n3_ n4_ n5_ n6_ n7_ n8_ n9_ n10_ n11_ n12_ n13_ hb hbox hg; have hnb12 := NB306_291.out; have hnc12 := NB291_306.out; have hnb13 := NB306_0.out; have hnc13 := NB0_306.out; have hcz14_0 : w11.cell? ⟨gb306, 0, none⟩ = some (.int .i64 0) := (blk_cell BK306.out 0).trans rfl; have hcz14_1 : w11.cell? ⟨gb306, 1, none⟩ = some (.int .i64 0) := (blk_cell BK306.out 1).trans rfl; have hcz14_2 : w11.cell? ⟨gb306, 2, none⟩ = some (.slice none 0 0) := (blk_cell BK306.out 2).trans rfl; have hcz14_3 : w11.cell? ⟨gb306, 3, none⟩ = some (.slice none 0 0) := (blk_cell BK306.out 3).trans rfl; have hfz14_0 := blk_frozen BK306.out 0; have hfz14_1 := blk_frozen BK306.out 1; have hfz14_2 := blk_frozen BK306.out 2; have hfz14_3 := blk_frozen BK306.out 3; obtain ⟨Ao15, co15, eo15⟩ := Kd.S_slice HO302.out; subst eo15; obtain ⟨Ao16, co16, eo16⟩ := Kd.S_slice HO305.out; subst eo16) | ((with_reducible refine gate_callee (f := 85) rfl ?_); refine goesL_ (some 20) rfl rfl Try.func85 (by kernel_rfl) rfl #[.pointer (some ⟨g, 0, none⟩), .int .i64 4] rfl (by (try simp only [List.map_toArray, List.map_cons, List.map_nil]); first | done | rfl | (simp only [List.length_drop, List.length_take]; rfl)) ?_; (with_reducible refine (spec_l20Rd_odd.calls k g s0_0 t297 4 t307 t308 w0 _ ?side1 ?side2 A5.out).mono ?_); (case side1 => repeat (first | (with_reducible first | exact HI0.out | apply IsS95.alloc | apply IsS95.drewN | apply IsS95.drew | apply IsS95.set_1 | refine IsS95.far ?_ NB0_291.out _ | refine IsS95.far ?_ NB0_306.out _) | exact HI0.out)); (case side2 => repeat (first | (with_reducible first | exact HB.out | apply below_alloc | apply pw_below_drewN | apply below_drew1 | refine below_set ?_ (IsS95.ge HI0.out) | refine below_set ?_ GE291.out | refine below_set ?_ GE306.out) | exact HB.out)); rintro e w17 ⟨rfl, hi, hb, hk⟩; refine ⟨_, rfl, ?_⟩; have n0_ := asd (KeepBut.blk hk (g' := gb291) (o := .cells #[.int .i64 0, .int .i64 0, .slice none 0 0, .slice none 0 0] 27 (0, 0)) (by (with_reducible repeat (first | refine blk_drewN ?_ _ | refine blk_drew ?_ | refine blk_alloc ?_ _)); refine blk_far ?_ NB291_306.out _; (with_reducible repeat (first | refine blk_drewN ?_ _ | refine blk_drew ?_ | refine blk_alloc ?_ _)); refine blk_far ?_ NB291_306.out _; (with_reducible repeat (first | refine blk_drewN ?_ _ | refine blk_drew ?_ | refine blk_alloc ?_ _)); refine blk_far ?_ NB291_306.out _; (with_reducible repeat (first | refine blk_drewN ?_ _ | refine blk_drew ?_ | refine blk_alloc ?_ _)); refine blk_far ?_ NB291_306.out _; (with_reducible repeat (first | refine blk_drewN ?_ _ | refine blk_drew ?_ | refine blk_alloc ?_ _)); exact BK291.out) NB291_0.out (by simp)); have n1_ := asd (Kd.R_mono (Kd.R_keep (IsS95.apart (show IsS95 w0 _ g s0_0 t297 from by repeat (first | (with_reducible first | exact HI0.out | apply IsS95.alloc | apply IsS95.drewN | apply IsS95.drew | apply IsS95.set_1 | refine IsS95.far ?_ NB0_291.out _ | refine IsS95.far ?_ NB0_306.out _) | exact HI0.out)) (by (with_reducible repeat (first | apply Kd.R_alloc | apply Kd.R_drewN | apply Kd.R_drew)); exact (Kd.R_mono (Kd.R_far (p := ⟨gb306, 3, none⟩) (Kd.R_far (p := ⟨gb306, 2, none⟩) (Kd.R_far (p := ⟨gb306, 1, none⟩) (Kd.R_far (p := ⟨gb306, 0, none⟩) (Kd.R_types HO296.out BK306.out (by decide)) (fun _ hk => hk.2) (.int .i64 t298)) (fun _ hk => hk.2) (.int .i64 t299)) (fun _ hk => hk.2) (.slice Ao15 t300.length co15)) (fun _ hk => hk.2) (.slice Ao16 t303.length co16)) (fun _ h_ => h_.1))) (by decide)) hk (fun _ h => h.2)) (fun _ h => h.1)); have n2_ := asd (Kd.S_mono (Kd.S_keep (IsS95.apartS (show IsS95 w0 _ g s0_0 t297 from by repeat (first | (with_reducible first | exact HI0.out | apply IsS95.alloc | apply IsS95.drewN | apply IsS95.drew | apply IsS95.set_1 | refine IsS95.far ?_ NB0_291.out _ | refine IsS95.far ?_ NB0_306.out _) | exact HI0.out)) (by (with_reducible repeat (first | apply Kd.S_alloc | apply Kd.S_drewN | apply Kd.S_drew)); exact (Kd.S_mono (Kd.S_far (p := ⟨gb306, 3, none⟩) (Kd.S_far (p := ⟨gb306, 2, none⟩) (Kd.S_far (p := ⟨gb306, 1, none⟩) (Kd.S_far (p := ⟨gb306, 0, none⟩) (Kd.S_types HO302.out BK306.out (by decide)) (fun _ hk => hk.2) (.int .i64 t298)) (fun _ hk => hk.2) (.int .i64 t299)) (fun _ hk => hk.2) (.slice Ao15 t300.length co15)) (fun _ hk => hk.2) (.slice Ao16 t303.length co16)) (fun _ h_ => h_.1))) (by decide)) hk (fun _ h => h.2)) (fun _ h => h.1)); have n3_ := asd (Kd.S_mono (Kd.S_keep (IsS95.apartS (show IsS95 w0 _ g s0_0 t297 from by repeat (first | (with_reducible first | exact HI0.out | apply IsS95.alloc | apply IsS95.drewN | apply IsS95.drew | apply IsS95.set_1 | refine IsS95.far ?_ NB0_291.out _ | refine IsS95.far ?_ NB0_306.out _) | exact HI0.out)) (by (with_reducible repeat (first | apply Kd.S_alloc | apply Kd.S_drewN | apply Kd.S_drew)); exact (Kd.S_mono (Kd.S_far (p := ⟨gb306, 3, none⟩) (Kd.S_far (p := ⟨gb306, 2, none⟩) (Kd.S_far (p := ⟨gb306, 1, none⟩) (Kd.S_far (p := ⟨gb306, 0, none⟩) (Kd.S_types HO305.out BK306.out (by decide)) (fun _ hk => hk.2) (.int .i64 t298)) (fun _ hk => hk.2) (.int .i64 t299)) (fun _ hk => hk.2) (.slice Ao15 t300.length co15)) (fun _ hk => hk.2) (.slice Ao16 t303.length co16)) (fun _ h_ => h_.1))) (by decide)) hk (fun _ h => h.2)) (fun _ h => h.1)); have n4_ := asd (KeepBut.blk hk (g' := gb306) (o := .cells #[.int .i64 t298, .int .i64 t299, .slice Ao15 t300.length co15, .slice Ao16 t303.length co16] 27 (0, 0)) (by (with_reducible repeat (first | refine blk_drewN ?_ _ | refine blk_drew ?_ | refine blk_alloc ?_ _)); refine blk_put (cs := #[.int .i64 t298, .int .i64 t299, .slice Ao15 t300.length co15, .slice none 0 0]) ?_ 3 _ rfl; (with_reducible repeat (first | refine blk_drewN ?_ _ | refine blk_drew ?_ | refine blk_alloc ?_ _)); refine blk_put (cs := #[.int .i64 t298, .int .i64 t299, .slice none 0 0, .slice none 0 0]) ?_ 2 _ rfl; (with_reducible repeat (first | refine blk_drewN ?_ _ | refine blk_drew ?_ | refine blk_alloc ?_ _)); refine blk_put (cs := #[.int .i64 t298, .int .i64 0, .slice none 0 0, .slice none 0 0]) ?_ 1 _ rfl; (with_reducible repeat (first | refine blk_drewN ?_ _ | refine blk_drew ?_ | refine blk_alloc ?_ _)); refine blk_put (cs := #[.int .i64 0, .int .i64 0, .slice none 0 0, .slice none 0 0]) ?_ 0 _ rfl; (with_reducible repeat (first | refine blk_drewN ?_ _ | refine blk_drew ?_ | refine blk_alloc ?_ _)); exact BK306.out) NB306_0.out (by simp)); have n5_ := asd (KeepBut.trans (by repeat (first | (with_reducible first | exact HK.out | apply KeepBut.set_ | apply keep_drewN | apply keep_drew | apply keep_alloc | refine keep_far ?_ GW291.out _ | refine keep_far ?_ GW306.out _) | exact HK.out)) hk (.inl rfl)); have n6_ := asd (hb); have n7_ := asd (hi); clear BK291 HO296 HO302 HO305 BK306 HK HB HI0; have BK291 := n0_; have HO296 := n1_; have HO302 := n2_; have HO305 := n3_; have BK306 := n4_; have HK := n5_; have HB := n6_; have HI0 := n7_; clear n0_ n1_ n2_ n3_ n4_ n5_ n6_ n7_))
 (try simp only [Act.put, List.setIfInBounds_toArray, List.set_cons_zero, List.set_cons_succ])
 go_cut [] (fun wc => ∃ (kq : Nat) (x1001_5 : Int) (x307002_5 : List (List Bool)) (x307003_5 : List (List Bool)) (u307002 : Value) (u307003 : Value), Aside0 (spec_l20Loop.j0 kq a1 s0_0 x1001_5 t298 t299 x307002_5 x307003_5 = some (r1, r2, r3, r4, r5)) ∧ Aside0 (kq ≤ k) ∧ Aside0 (Kd.Q (Kd.slice 4 Kd.bool) 45 wc w.heap.size (fun k_ => some k_ ≠ (u307003 : Value).ownBlock ∧ k_ < B_) u307002 x307002_5) ∧ Aside0 (Kd.S (Kd.slice 4 Kd.bool) 45 wc w.heap.size (fun k_ => some k_ ≠ (u307002 : Value).ownBlock ∧ B_ ≤ k_) u307003 x307003_5) ∧ Aside0 (wc.heap[gb291]? = some (.cells #[.int .i64 0, .int .i64 0, (.slice none 0 0), (.slice none 0 0)] 27 (0, 0))) ∧ Aside0 (wc.heap[gb306]? = some (.cells #[.int .i64 t298, .int .i64 t299, u307002, u307003] 27 (0, 0))) ∧ Aside0 (IsS95 w0 wc g s0_0 x1001_5) ∧ Aside0 (KeepBut w wc g none) ∧ Aside0 (Below w0.heap.size w0 wc))
 case first =>
  have H := HC6.out
  clear HC6
  by_cases c18 : t307 = true
  ·subst c18
   have H1 : ((spec_l20Rd_pick.f k s0_0 t308 (wrap64 (t292 + 1))).bind fun bt309 => (if 0 ≤ bt309.1 then (if bt309.1 < (t300.length : Int) then ((spec_l20Rd_pick.f k s0_0 bt309.2 t293).bind fun bt312 => ((spec_l20Rd_pick.f k s0_0 bt312.2 2).bind fun bt314 => (if 0 ≤ bt312.1 then (if bt312.1 < ((rd_L1 t300 bt309.1).length : Int) then (spec_l20Loop.j0 k a1 s0_0 bt314.2 t298 t299 (t300.set (bt309.1 : Int).toNat ((rd_L1 t300 bt309.1).set (bt312.1 : Int).toNat (bt314.1 == 0))) t303) else (none)) else (none)))) else (none)) else (none))) = some (r1, r2, r3, r4, r5) := by rw [if_pos rfl] at H; exact H
   clear H
   have H := H1
   clear H1
   replace H := Option.bind_eq_some_iff.mp H
   obtain ⟨⟨t309, t310⟩, A190, H⟩ := H
   replace H : (if 0 ≤ t309 then (if t309 < (t300.length : Int) then ((spec_l20Rd_pick.f k s0_0 t310 t293).bind fun bt312 => ((spec_l20Rd_pick.f k s0_0 bt312.2 2).bind fun bt314 => (if 0 ≤ bt312.1 then (if bt312.1 < ((rd_L1 t300 t309).length : Int) then (spec_l20Loop.j0 k a1 s0_0 bt314.2 t298 t299 (t300.set (t309 : Int).toNat ((rd_L1 t300 t309).set (bt312.1 : Int).toNat (bt314.1 == 0))) t303) else (none)) else (none)))) else (none)) else (none)) = some (r1, r2, r3, r4, r5) := H
   have A19 := asd A190
   clear A190
   by_cases c20 : 0 ≤ t309
   ·rw [if_pos c20] at H
    have c20b0 : decide (0 ≤ t309) = true := decide_eq_true c20
    clear c20
    (first | rw [c20b0] | (simp only [i64_w, i32_w]; rw [c20b0]) | skip)
    by_cases c21 : t309 < (t300.length : Int)
    ·rw [if_pos c21] at H
     have c21b0 : decide (t309 < (t300.length : Int)) = true := decide_eq_true c21
     clear c21
     replace H := Option.bind_eq_some_iff.mp H
     obtain ⟨⟨t312, t313⟩, A220, H⟩ := H
     replace H : ((spec_l20Rd_pick.f k s0_0 t313 2).bind fun bt314 => (if 0 ≤ t312 then (if t312 < ((rd_L1 t300 t309).length : Int) then (spec_l20Loop.j0 k a1 s0_0 bt314.2 t298 t299 (t300.set (t309 : Int).toNat ((rd_L1 t300 t309).set (t312 : Int).toNat (bt314.1 == 0))) t303) else (none)) else (none))) = some (r1, r2, r3, r4, r5) := H
     have A22 := asd A220
     clear A220
     replace H := Option.bind_eq_some_iff.mp H
     obtain ⟨⟨t314, t315⟩, A230, H⟩ := H
     replace H : (if 0 ≤ t312 then (if t312 < ((rd_L1 t300 t309).length : Int) then (spec_l20Loop.j0 k a1 s0_0 t315 t298 t299 (t300.set (t309 : Int).toNat ((rd_L1 t300 t309).set (t312 : Int).toNat (t314 == 0))) t303) else (none)) else (none)) = some (r1, r2, r3, r4, r5) := H
     have A23 := asd A230
     clear A230
     by_cases c24 : 0 ≤ t312
     ·rw [if_pos c24] at H
      have c24b0 : decide (0 ≤ t312) = true := decide_eq_true c24
      clear c24
      by_cases c25 : t312 < ((rd_L1 t300 t309).length : Int)
      ·rw [if_pos c25] at H
       have c25b0 : decide (t312 < ((rd_L1 t300 t309).length : Int)) = true := decide_eq_true c25
       clear c25
       obtain ⟨y316, hy316⟩ : ∃ y_ : List Bool, y_ = ((rd_L1 t300 t309).set (t312 : Int).toNat (t314 == 0)) := ⟨_, rfl⟩
       replace H : (spec_l20Loop.j0 k a1 s0_0 t315 t298 t299 (t300.set (t309 : Int).toNat y316) t303) = some (r1, r2, r3, r4, r5) := by first | (rw [hy316]; with_reducible exact H) | (have H2_ := (Option.bind_some _ _).symm.trans H; rw [hy316]; with_reducible exact H2_) | (have H2_ := (Option.bind_some _ _).symm.trans H; with_reducible exact H2_) | with_reducible exact H | (rw [hy316]; exact H) | exact H
       have Ny316 := asd hy316
       clear hy316
       obtain ⟨y318, hy318⟩ : ∃ y_ : List (List Bool), y_ = (t300.set (t309 : Int).toNat y316) := ⟨_, rfl⟩
       replace H : (spec_l20Loop.j0 k a1 s0_0 t315 t298 t299 y318 t303) = some (r1, r2, r3, r4, r5) := by first | (rw [hy318]; with_reducible exact H) | (have H2_ := (Option.bind_some _ _).symm.trans H; rw [hy318]; with_reducible exact H2_) | (have H2_ := (Option.bind_some _ _).symm.trans H; with_reducible exact H2_) | with_reducible exact H | (rw [hy318]; exact H) | exact H
       have Ny318 := asd hy318
       clear hy318
       have H' := asd H
       clear H
       try go_wp2
       have n0_ := asd (Kd.R_drew HO296.out)
       have n1_ := asd (Kd.S_drew HO302.out)
       have n2_ := asd (Kd.S_drew HO305.out)
       have n3_ := asd (blk_drew BK291.out)
       have n4_ := asd (blk_drew BK306.out)
       have n5_ := asd (IsS95.drew HI0.out)
       have n6_ := asd (keep_drew HK.out)
       have n7_ := asd (below_drew1 HB.out)
       clear HO296 HO302 HO305 BK291 BK306 HI0 HK HB
       have HO296 := n0_
       have HO302 := n1_
       have HO305 := n2_
       have BK291 := n3_
       have BK306 := n4_
       have HI0 := n5_
       have HK := n6_
       have HB := n7_
       clear n0_ n1_ n2_ n3_ n4_ n5_ n6_ n7_
       have p311 : 0 ≤ (t309 : Int) := of_decide_eq_true (by first | (with_reducible assumption) | assumption)
       have q311 : t309 < (t300.length : Int) := of_decide_eq_true (by first | (with_reducible assumption) | assumption)
       obtain ⟨ad311, A311_0, c311_0, e311, hx311_0, hl311_0, hi311_0⟩ := at_L1 (Kd.S_reads' HO302.out).2.2 t309 p311 q311
       cases e311
       obtain ⟨ce311, hce311, hMe311, hcc311⟩ := Kd.S_get HO302.out [] t309 p311 (by first | exact q311 | exact of_decide_eq_true (by first | (with_reducible assumption) | assumption) | (have e_ := (Kd.S_reads' HO302.out).1; omega))
       obtain ⟨ve311_0, rfl, ge311_0⟩ := hMe311
       have hv311_0 := hcc311 0 _ rfl
       rw [Nat.add_zero, show ((Kd.slice 4 Kd.bool)).sz = 1 from rfl, Nat.mul_one] at hv311_0
       replace hv311_0 := Option.some.inj (hv311_0.symm.trans hx311_0)
       rw [hv311_0] at ge311_0
       have HL311_0 := asd (show Kd.R Kd.bool 4 _ _ _ _ (rd_L1 t300 t309) from ge311_0)
       clear hv311_0 ge311_0
       have HX311_0 := asd hx311_0
       clear hcc311 hce311
       have HR311_0 := asd hi311_0
       have HC311_0 := asd hl311_0
       clear hi311_0 hl311_0
       replace p311 := eq_true p311
       replace q311 := eq_true q311
       refine start_ (n := 16) (S := fun w' => w'.cell? ⟨gb306, 0, none⟩ = some (.int .i64 t298) ∧ w'.cell? ⟨gb306, 1, none⟩ = some (.int .i64 t299) ∧ w'.cell? ⟨gb306, 2, none⟩ = some (.slice (some ad311) t300.length co15) ∧ w'.cell? ⟨gb306, 3, none⟩ = some (.slice Ao16 t303.length co16) ∧ w'.cell? (ad311.add (t309).toNat) = some (.slice A311_0 (rd_L1 t300 t309).length c311_0)) (ds := [15]) #[false, false, false, false, false, false, false, false, false, false, false, false, false, false, false, false] (by kernel_rfl) rfl rfl ⟨(blk_cell BK306.out 0).trans rfl, (blk_cell BK306.out 1).trans rfl, (blk_cell BK306.out 2).trans rfl, (blk_cell BK306.out 3).trans rfl, hx311_0⟩ (fun hHeld => ?_); refine with_tabW spec_l20Loop.tab4 spec_l20Loop.bits4 (fun HT_ HW_ => ?_)
       generalize w17.drew = w27 at HO296 HO302 HO305 BK291 BK306 HI0 HK HB HL311_0 HR311_0 HX311_0 hx311_0 hHeld ⊢
       refine pure_ (i := 0) (N := some 21) (v := ?_) (a' := ?_) #[true, false, false, false, false, false, false, false, false, false, false, false, false, false, false, false] rfl rfl (any_of HT_.out (by kernel_rfl)) (fun _ _ _ h => h) (Or.inl ⟨by rfl, ?_⟩) ?_ ?_
       rotate_left
       ·intro w'
        go_simp
        with_reducible rfl
       rotate_left
       ·simp only [Act.put, List.setIfInBounds_toArray, List.set_cons_zero, List.set_cons_succ, i64_w, i32_w]
        rfl
       refine pure_ (i := 2) (N := some 23) (v := ?_) (a' := ?_) #[true, false, true, false, false, false, false, false, false, false, false, false, false, false, false, false] rfl rfl (any_of HT_.out (by kernel_rfl)) (fun _ _ _ h => h) (Or.inl ⟨by rfl, ?_⟩) ?_ ?_
       rotate_left
       ·intro w'
        go_simp
        with_reducible rfl
       rotate_left
       ·simp only [Act.put, List.setIfInBounds_toArray, List.set_cons_zero, List.set_cons_succ, i64_w, i32_w]
        rfl
       refine pure_ (i := 3) (N := some 24) (v := ?_) (a' := ?_) #[true, false, true, true, false, false, false, false, false, false, false, false, false, false, false, false] rfl rfl (any_of HT_.out (by kernel_rfl)) (fun _ _ _ h => h) (Or.inl ⟨by rfl, ?_⟩) ?_ ?_
       rotate_left
       ·intro w'
        go_simp
        with_reducible rfl
       rotate_left
       ·simp only [Act.put, List.setIfInBounds_toArray, List.set_cons_zero, List.set_cons_succ, i64_w, i32_w]
        rfl
       refine pure_ (i := 4) (N := some 25) (v := ?_) (a' := ?_) #[true, false, true, true, true, false, false, false, false, false, false, false, false, false, false, false] rfl rfl (any_of HT_.out (by kernel_rfl)) (fun _ _ _ h => h) (Or.inl ⟨by rfl, ?_⟩) ?_ ?_
       rotate_left
       ·intro w'
        go_simp
        with_reducible rfl
       rotate_left
       ·simp only [Act.put, List.setIfInBounds_toArray, List.set_cons_zero, List.set_cons_succ, i64_w, i32_w]
        rfl
       refine pure_ (i := 8) (N := some 29) (v := ?_) (a' := ?_) #[true, false, true, true, true, false, false, false, true, false, false, false, false, false, false, false] rfl rfl (any_of HT_.out (by kernel_rfl)) (fun _ _ _ h => h) (Or.inl ⟨by rfl, ?_⟩) ?_ ?_
       rotate_left
       ·intro w'
        go_simp
        with_reducible rfl
       rotate_left
       ·simp only [Act.put, List.setIfInBounds_toArray, List.set_cons_zero, List.set_cons_succ, i64_w, i32_w]
        rfl
       refine pure_ (i := 9) (N := some 30) (v := ?_) (a' := ?_) #[true, false, true, true, true, false, false, false, true, true, false, false, false, false, false, false] rfl rfl (any_of HT_.out (by kernel_rfl)) (fun _ _ _ h => h) (Or.inl ⟨by rfl, ?_⟩) ?_ ?_
       rotate_left
       ·intro w'
        go_simp
        with_reducible rfl
       rotate_left
       ·simp only [Act.put, List.setIfInBounds_toArray, List.set_cons_zero, List.set_cons_succ, i64_w, i32_w]
        rfl
       refine pure_ (i := 11) (N := some 32) (v := ?_) (a' := ?_) #[true, false, true, true, true, false, false, false, true, true, false, true, false, false, false, false] rfl rfl (any_of HT_.out (by kernel_rfl)) (fun _ _ _ h => h) (Or.inl ⟨by rfl, ?_⟩) ?_ ?_
       rotate_left
       ·intro w'
        go_simp
        with_reducible rfl
       rotate_left
       ·simp only [Act.put, List.setIfInBounds_toArray, List.set_cons_zero, List.set_cons_succ, i64_w, i32_w]
        rfl
       refine take_ (i := 1) (N := some 22) (v := ?_) (a' := ?_) #[true, true, true, true, true, false, false, false, true, true, false, true, false, false, false, false] rfl rfl (take_ofW HT_.out HW_.out (by kernel_rfl)) (fun _ _ _ h => h) (Or.inl ⟨by rfl, ?_⟩) hHeld ?_ ?_
       rotate_left
       ·rintro w' ⟨s0, s1, s2, s3, s4⟩
        go_simp
        with_reducible rfl
       rotate_left
       ·simp only [Act.put, List.setIfInBounds_toArray, List.set_cons_zero, List.set_cons_succ, i64_w, i32_w]
        rfl
       refine one_ (i := 5) (N := some 26) #[true, true, true, true, true, true, false, false, true, true, false, true, false, false, false, false] rfl rfl (one_of HT_.out (by kernel_rfl)) (by decide) (fun K hK => ?_)
       refine goes_ Try.func86 (by kernel_rfl) rfl #[.pointer (some ⟨g, 0, none⟩), .int .i64 (wrap64 (t292 + 1))] (by rfl) rfl rfl (by (try simp only [List.map_toArray, List.map_cons, List.map_nil]); first | done | rfl | (simp only [List.length_drop, List.length_take]; rfl)) ?_
       with_reducible refine (spec_l20Rd_pick.calls k g s0_0 t308 (wrap64 (t292 + 1)) t309 t310 w0 _ ?side1 ?side2 A19.out).mono ?_
       (case side1 => repeat (first | (with_reducible first | exact HI0.out | apply IsS95.alloc | apply IsS95.drewN | apply IsS95.drew | apply IsS95.set_1 | refine IsS95.far ?_ NB0_291.out _ | refine IsS95.far ?_ NB0_306.out _) | exact HI0.out))
       (case side2 => repeat (first | (with_reducible first | exact HB.out | apply below_alloc | apply pw_below_drewN | apply below_drew1 | refine below_set ?_ (IsS95.ge HI0.out) | refine below_set ?_ GE291.out | refine below_set ?_ GE306.out) | exact HB.out))
       rintro e w28 ⟨rfl, hi, hb, hk⟩
       have HS4_ := keep_cell hk (hHeld.2.2.2.2) (by first | (rw [add_block]; exact Kd.own_blk (IsS95.own_neS HI0.out HO302.out (by decide))) | (show (Addr.add _ _).block ≠ _; rw [add_block]; exact Kd.own_blk (IsS95.own_neS HI0.out HO302.out (by decide))) | exact Kd.own_blk (IsS95.own_neS HI0.out HO302.out (by decide)))
       refine ⟨_, rfl, ?_⟩
       have n0_ := asd (KeepBut.blk hk (g' := gb291) (o := .cells #[.int .i64 0, .int .i64 0, .slice none 0 0, .slice none 0 0] 27 (0, 0)) (by (with_reducible repeat (first | refine blk_drewN ?_ _ | refine blk_drew ?_ | refine blk_alloc ?_ _)); exact BK291.out) NB291_0.out (by simp))
       have n1_ := asd (Kd.R_mono (Kd.R_keep (IsS95.apart (show IsS95 w0 _ g s0_0 t308 from by repeat (first | (with_reducible first | exact HI0.out | apply IsS95.alloc | apply IsS95.drewN | apply IsS95.drew | apply IsS95.set_1 | refine IsS95.far ?_ NB0_291.out _ | refine IsS95.far ?_ NB0_306.out _) | exact HI0.out)) (by (with_reducible repeat (first | apply Kd.R_alloc | apply Kd.R_drewN | apply Kd.R_drew)); exact HO296.out) (by decide)) hk (fun _ h => h.2)) (fun _ h => h.1))
       have n2_ := asd (Kd.S_mono (Kd.S_keep (IsS95.apartS (show IsS95 w0 _ g s0_0 t308 from by repeat (first | (with_reducible first | exact HI0.out | apply IsS95.alloc | apply IsS95.drewN | apply IsS95.drew | apply IsS95.set_1 | refine IsS95.far ?_ NB0_291.out _ | refine IsS95.far ?_ NB0_306.out _) | exact HI0.out)) (by (with_reducible repeat (first | apply Kd.S_alloc | apply Kd.S_drewN | apply Kd.S_drew)); exact HO302.out) (by decide)) hk (fun _ h => h.2)) (fun _ h => h.1))
       have n3_ := asd (Kd.S_mono (Kd.S_keep (IsS95.apartS (show IsS95 w0 _ g s0_0 t308 from by repeat (first | (with_reducible first | exact HI0.out | apply IsS95.alloc | apply IsS95.drewN | apply IsS95.drew | apply IsS95.set_1 | refine IsS95.far ?_ NB0_291.out _ | refine IsS95.far ?_ NB0_306.out _) | exact HI0.out)) (by (with_reducible repeat (first | apply Kd.S_alloc | apply Kd.S_drewN | apply Kd.S_drew)); exact HO305.out) (by decide)) hk (fun _ h => h.2)) (fun _ h => h.1))
       have nA_ := asd (Kd.R_mono (Kd.R_keep (IsS95.apart (show IsS95 w0 _ g s0_0 t308 from by repeat (first | (with_reducible first | exact HI0.out | apply IsS95.alloc | apply IsS95.drewN | apply IsS95.drew | apply IsS95.set_1 | refine IsS95.far ?_ NB0_291.out _ | refine IsS95.far ?_ NB0_306.out _) | exact HI0.out)) (by (with_reducible repeat (first | apply Kd.R_alloc | apply Kd.R_drewN | apply Kd.R_drew)); exact HL311_0.out) (by decide)) hk (fun _ h => h.2)) (fun _ h => h.1))
       have nB_ := asd (keep_cell hk HX311_0.out (by first | (rw [add_block]; exact Kd.own_blk (IsS95.own_neS HI0.out HO302.out (by decide))) | (show (Addr.add _ _).block ≠ _; rw [add_block]; exact Kd.own_blk (IsS95.own_neS HI0.out HO302.out (by decide))) | exact Kd.own_blk (IsS95.own_neS HI0.out HO302.out (by decide)) | (dsimp only; exact Kd.own_blk (IsS95.own_neS HI0.out HO302.out (by decide)))))
       clear HL311_0 HX311_0
       have HL311_0 := nA_
       have HX311_0 := nB_
       clear nA_ nB_
       have n4_ := asd (KeepBut.blk hk (g' := gb306) (o := .cells #[.int .i64 t298, .int .i64 t299, .slice (some ad311) t300.length co15, .slice Ao16 t303.length co16] 27 (0, 0)) (by (with_reducible repeat (first | refine blk_drewN ?_ _ | refine blk_drew ?_ | refine blk_alloc ?_ _)); exact BK306.out) NB306_0.out (by simp))
       have n5_ := asd (KeepBut.trans (by repeat (first | (with_reducible first | exact HK.out | apply KeepBut.set_ | apply keep_drewN | apply keep_drew | apply keep_alloc | refine keep_far ?_ GW291.out _ | refine keep_far ?_ GW306.out _) | exact HK.out)) hk (.inl rfl))
       have n6_ := asd (hb)
       have n7_ := asd (hi)
       clear BK291 HO296 HO302 HO305 BK306 HK HB HI0
       have BK291 := n0_
       have HO296 := n1_
       have HO302 := n2_
       have HO305 := n3_
       have BK306 := n4_
       have HK := n5_
       have HB := n6_
       have HI0 := n7_
       clear n0_ n1_ n2_ n3_ n4_ n5_ n6_ n7_
       (try clear hb)
       (try clear hb2)
       (try clear hk)
       (try clear hi)
       refine hK.out _ _ ⟨(blk_cell BK306.out 0).trans rfl, (blk_cell BK306.out 1).trans rfl, (blk_cell BK306.out 2).trans rfl, (blk_cell BK306.out 3).trans rfl, HS4_⟩ (fun hHeld => ?_)
       clear hK K
       refine norm_ (a' := ?_) ?_ ?_
       rotate_left
       ·show Act.put _ (some 26) _ = _
        simp only [Act.put, List.setIfInBounds_toArray, List.set_cons_zero, List.set_cons_succ, i64_w, i32_w]
        rfl
       refine pure_ (i := 6) (N := some 27) (v := ?_) (a' := ?_) #[true, true, true, true, true, true, true, false, true, true, false, true, false, false, false, false] rfl rfl (any_of HT_.out (by kernel_rfl)) (fun _ _ _ h => h) (Or.inl ⟨by rfl, ?_⟩) ?_ ?_
       rotate_left
       ·intro w'
        go_simp
        with_reducible rfl
       rotate_left
       ·simp only [Act.put, List.setIfInBounds_toArray, List.set_cons_zero, List.set_cons_succ, i64_w, i32_w]
        rfl
       refine take_ (i := 7) (N := some 28) (v := ?_) (a' := ?_) #[true, true, true, true, true, true, true, true, true, true, false, true, false, false, false, false] rfl rfl (take_ofW HT_.out HW_.out (by kernel_rfl)) (fun _ _ _ h => h) (Or.inl ⟨by rfl, ?_⟩) hHeld ?_ ?_
       rotate_left
       ·rintro w' ⟨s0, s1, s2, s3, s4⟩
        go_simp
        with_reducible rfl
       rotate_left
       ·simp only [Act.put, List.setIfInBounds_toArray, List.set_cons_zero, List.set_cons_succ, i64_w, i32_w]
        rfl
       refine one_ (i := 10) (N := some 31) #[true, true, true, true, true, true, true, true, true, true, true, true, false, false, false, false] rfl rfl (one_of HT_.out (by kernel_rfl)) (by decide) (fun K hK => ?_)
       refine goes_ Try.func86 (by kernel_rfl) rfl #[.pointer (some ⟨g, 0, none⟩), .int .i64 t293] (by rfl) rfl rfl (by (try simp only [List.map_toArray, List.map_cons, List.map_nil]); first | done | rfl | (simp only [List.length_drop, List.length_take]; rfl)) ?_
       with_reducible refine (spec_l20Rd_pick.calls k g s0_0 t310 t293 t312 t313 w0 _ ?side1 ?side2 A22.out).mono ?_
       (case side1 => repeat (first | (with_reducible first | exact HI0.out | apply IsS95.alloc | apply IsS95.drewN | apply IsS95.drew | apply IsS95.set_1 | refine IsS95.far ?_ NB0_291.out _ | refine IsS95.far ?_ NB0_306.out _) | exact HI0.out))
       (case side2 => repeat (first | (with_reducible first | exact HB.out | apply below_alloc | apply pw_below_drewN | apply below_drew1 | refine below_set ?_ (IsS95.ge HI0.out) | refine below_set ?_ GE291.out | refine below_set ?_ GE306.out) | exact HB.out))
       rintro e w29 ⟨rfl, hi, hb, hk⟩
       have HS4_ := keep_cell hk (hHeld.2.2.2.2) (by first | (rw [add_block]; exact Kd.own_blk (IsS95.own_neS HI0.out HO302.out (by decide))) | (show (Addr.add _ _).block ≠ _; rw [add_block]; exact Kd.own_blk (IsS95.own_neS HI0.out HO302.out (by decide))) | exact Kd.own_blk (IsS95.own_neS HI0.out HO302.out (by decide)))
       refine ⟨_, rfl, ?_⟩
       have n0_ := asd (KeepBut.blk hk (g' := gb291) (o := .cells #[.int .i64 0, .int .i64 0, .slice none 0 0, .slice none 0 0] 27 (0, 0)) (by (with_reducible repeat (first | refine blk_drewN ?_ _ | refine blk_drew ?_ | refine blk_alloc ?_ _)); exact BK291.out) NB291_0.out (by simp))
       have n1_ := asd (Kd.R_mono (Kd.R_keep (IsS95.apart (show IsS95 w0 _ g s0_0 t310 from by repeat (first | (with_reducible first | exact HI0.out | apply IsS95.alloc | apply IsS95.drewN | apply IsS95.drew | apply IsS95.set_1 | refine IsS95.far ?_ NB0_291.out _ | refine IsS95.far ?_ NB0_306.out _) | exact HI0.out)) (by (with_reducible repeat (first | apply Kd.R_alloc | apply Kd.R_drewN | apply Kd.R_drew)); exact HO296.out) (by decide)) hk (fun _ h => h.2)) (fun _ h => h.1))
       have n2_ := asd (Kd.S_mono (Kd.S_keep (IsS95.apartS (show IsS95 w0 _ g s0_0 t310 from by repeat (first | (with_reducible first | exact HI0.out | apply IsS95.alloc | apply IsS95.drewN | apply IsS95.drew | apply IsS95.set_1 | refine IsS95.far ?_ NB0_291.out _ | refine IsS95.far ?_ NB0_306.out _) | exact HI0.out)) (by (with_reducible repeat (first | apply Kd.S_alloc | apply Kd.S_drewN | apply Kd.S_drew)); exact HO302.out) (by decide)) hk (fun _ h => h.2)) (fun _ h => h.1))
       have n3_ := asd (Kd.S_mono (Kd.S_keep (IsS95.apartS (show IsS95 w0 _ g s0_0 t310 from by repeat (first | (with_reducible first | exact HI0.out | apply IsS95.alloc | apply IsS95.drewN | apply IsS95.drew | apply IsS95.set_1 | refine IsS95.far ?_ NB0_291.out _ | refine IsS95.far ?_ NB0_306.out _) | exact HI0.out)) (by (with_reducible repeat (first | apply Kd.S_alloc | apply Kd.S_drewN | apply Kd.S_drew)); exact HO305.out) (by decide)) hk (fun _ h => h.2)) (fun _ h => h.1))
       have n4_ := asd (KeepBut.blk hk (g' := gb306) (o := .cells #[.int .i64 t298, .int .i64 t299, .slice (some ad311) t300.length co15, .slice Ao16 t303.length co16] 27 (0, 0)) (by (with_reducible repeat (first | refine blk_drewN ?_ _ | refine blk_drew ?_ | refine blk_alloc ?_ _)); exact BK306.out) NB306_0.out (by simp))
       have n5_ := asd (Kd.R_mono (Kd.R_keep (IsS95.apart (show IsS95 w0 _ g s0_0 t310 from by repeat (first | (with_reducible first | exact HI0.out | apply IsS95.alloc | apply IsS95.drewN | apply IsS95.drew | apply IsS95.set_1 | refine IsS95.far ?_ NB0_291.out _ | refine IsS95.far ?_ NB0_306.out _) | exact HI0.out)) (by (with_reducible repeat (first | apply Kd.R_alloc | apply Kd.R_drewN | apply Kd.R_drew)); exact HL311_0.out) (by decide)) hk (fun _ h => h.2)) (fun _ h => h.1))
       have n6_ := asd (keep_cell hk HX311_0.out (by first | (rw [add_block]; exact Kd.own_blk (IsS95.own_neS HI0.out HO302.out (by decide))) | (show (Addr.add _ _).block ≠ _; rw [add_block]; exact Kd.own_blk (IsS95.own_neS HI0.out HO302.out (by decide))) | exact Kd.own_blk (IsS95.own_neS HI0.out HO302.out (by decide)) | (dsimp only; exact Kd.own_blk (IsS95.own_neS HI0.out HO302.out (by decide)))))
       have n7_ := asd (KeepBut.trans (by repeat (first | (with_reducible first | exact HK.out | apply KeepBut.set_ | apply keep_drewN | apply keep_drew | apply keep_alloc | refine keep_far ?_ GW291.out _ | refine keep_far ?_ GW306.out _) | exact HK.out)) hk (.inl rfl))
       have n8_ := asd (hb)
       have n9_ := asd (hi)
       clear BK291 HO296 HO302 HO305 BK306 HL311_0 HX311_0 HK HB HI0
       have BK291 := n0_
       have HO296 := n1_
       have HO302 := n2_
       have HO305 := n3_
       have BK306 := n4_
       have HL311_0 := n5_
       have HX311_0 := n6_
       have HK := n7_
       have HB := n8_
       have HI0 := n9_
       clear n0_ n1_ n2_ n3_ n4_ n5_ n6_ n7_ n8_ n9_
       (try clear hb)
       (try clear hb2)
       (try clear hk)
       (try clear hi)
       refine hK.out _ _ ⟨(blk_cell BK306.out 0).trans rfl, (blk_cell BK306.out 1).trans rfl, (blk_cell BK306.out 2).trans rfl, (blk_cell BK306.out 3).trans rfl, HS4_⟩ (fun hHeld => ?_)
       clear hK K
       refine norm_ (a' := ?_) ?_ ?_
       rotate_left
       ·show Act.put _ (some 31) _ = _
        simp only [Act.put, List.setIfInBounds_toArray, List.set_cons_zero, List.set_cons_succ, i64_w, i32_w]
        rfl
       refine one_ (i := 12) (N := some 33) #[true, true, true, true, true, true, true, true, true, true, true, true, true, false, false, false] rfl rfl (one_of HT_.out (by kernel_rfl)) (by decide) (fun K hK => ?_)
       refine goes_ Try.func86 (by kernel_rfl) rfl #[.pointer (some ⟨g, 0, none⟩), .int .i64 2] (by rfl) rfl rfl (by (try simp only [List.map_toArray, List.map_cons, List.map_nil]); first | done | rfl | (simp only [List.length_drop, List.length_take]; rfl)) ?_
       with_reducible refine (spec_l20Rd_pick.calls k g s0_0 t313 2 t314 t315 w0 _ ?side1 ?side2 A23.out).mono ?_
       (case side1 => repeat (first | (with_reducible first | exact HI0.out | apply IsS95.alloc | apply IsS95.drewN | apply IsS95.drew | apply IsS95.set_1 | refine IsS95.far ?_ NB0_291.out _ | refine IsS95.far ?_ NB0_306.out _) | exact HI0.out))
       (case side2 => repeat (first | (with_reducible first | exact HB.out | apply below_alloc | apply pw_below_drewN | apply below_drew1 | refine below_set ?_ (IsS95.ge HI0.out) | refine below_set ?_ GE291.out | refine below_set ?_ GE306.out) | exact HB.out))
       rintro e w30 ⟨rfl, hi, hb, hk⟩
       have HS4_ := keep_cell hk (hHeld.2.2.2.2) (by first | (rw [add_block]; exact Kd.own_blk (IsS95.own_neS HI0.out HO302.out (by decide))) | (show (Addr.add _ _).block ≠ _; rw [add_block]; exact Kd.own_blk (IsS95.own_neS HI0.out HO302.out (by decide))) | exact Kd.own_blk (IsS95.own_neS HI0.out HO302.out (by decide)))
       refine ⟨_, rfl, ?_⟩
       have n0_ := asd (KeepBut.blk hk (g' := gb291) (o := .cells #[.int .i64 0, .int .i64 0, .slice none 0 0, .slice none 0 0] 27 (0, 0)) (by (with_reducible repeat (first | refine blk_drewN ?_ _ | refine blk_drew ?_ | refine blk_alloc ?_ _)); exact BK291.out) NB291_0.out (by simp))
       have n1_ := asd (Kd.R_mono (Kd.R_keep (IsS95.apart (show IsS95 w0 _ g s0_0 t313 from by repeat (first | (with_reducible first | exact HI0.out | apply IsS95.alloc | apply IsS95.drewN | apply IsS95.drew | apply IsS95.set_1 | refine IsS95.far ?_ NB0_291.out _ | refine IsS95.far ?_ NB0_306.out _) | exact HI0.out)) (by (with_reducible repeat (first | apply Kd.R_alloc | apply Kd.R_drewN | apply Kd.R_drew)); exact HO296.out) (by decide)) hk (fun _ h => h.2)) (fun _ h => h.1))
       have n2_ := asd (Kd.S_mono (Kd.S_keep (IsS95.apartS (show IsS95 w0 _ g s0_0 t313 from by repeat (first | (with_reducible first | exact HI0.out | apply IsS95.alloc | apply IsS95.drewN | apply IsS95.drew | apply IsS95.set_1 | refine IsS95.far ?_ NB0_291.out _ | refine IsS95.far ?_ NB0_306.out _) | exact HI0.out)) (by (with_reducible repeat (first | apply Kd.S_alloc | apply Kd.S_drewN | apply Kd.S_drew)); exact HO302.out) (by decide)) hk (fun _ h => h.2)) (fun _ h => h.1))
       have n3_ := asd (Kd.S_mono (Kd.S_keep (IsS95.apartS (show IsS95 w0 _ g s0_0 t313 from by repeat (first | (with_reducible first | exact HI0.out | apply IsS95.alloc | apply IsS95.drewN | apply IsS95.drew | apply IsS95.set_1 | refine IsS95.far ?_ NB0_291.out _ | refine IsS95.far ?_ NB0_306.out _) | exact HI0.out)) (by (with_reducible repeat (first | apply Kd.S_alloc | apply Kd.S_drewN | apply Kd.S_drew)); exact HO305.out) (by decide)) hk (fun _ h => h.2)) (fun _ h => h.1))
       have n4_ := asd (KeepBut.blk hk (g' := gb306) (o := .cells #[.int .i64 t298, .int .i64 t299, .slice (some ad311) t300.length co15, .slice Ao16 t303.length co16] 27 (0, 0)) (by (with_reducible repeat (first | refine blk_drewN ?_ _ | refine blk_drew ?_ | refine blk_alloc ?_ _)); exact BK306.out) NB306_0.out (by simp))
       have n5_ := asd (Kd.R_mono (Kd.R_keep (IsS95.apart (show IsS95 w0 _ g s0_0 t313 from by repeat (first | (with_reducible first | exact HI0.out | apply IsS95.alloc | apply IsS95.drewN | apply IsS95.drew | apply IsS95.set_1 | refine IsS95.far ?_ NB0_291.out _ | refine IsS95.far ?_ NB0_306.out _) | exact HI0.out)) (by (with_reducible repeat (first | apply Kd.R_alloc | apply Kd.R_drewN | apply Kd.R_drew)); exact HL311_0.out) (by decide)) hk (fun _ h => h.2)) (fun _ h => h.1))
       have n6_ := asd (keep_cell hk HX311_0.out (by first | (rw [add_block]; exact Kd.own_blk (IsS95.own_neS HI0.out HO302.out (by decide))) | (show (Addr.add _ _).block ≠ _; rw [add_block]; exact Kd.own_blk (IsS95.own_neS HI0.out HO302.out (by decide))) | exact Kd.own_blk (IsS95.own_neS HI0.out HO302.out (by decide)) | (dsimp only; exact Kd.own_blk (IsS95.own_neS HI0.out HO302.out (by decide)))))
       have n7_ := asd (KeepBut.trans (by repeat (first | (with_reducible first | exact HK.out | apply KeepBut.set_ | apply keep_drewN | apply keep_drew | apply keep_alloc | refine keep_far ?_ GW291.out _ | refine keep_far ?_ GW306.out _) | exact HK.out)) hk (.inl rfl))
       have n8_ := asd (hb)
       have n9_ := asd (hi)
       clear BK291 HO296 HO302 HO305 BK306 HL311_0 HX311_0 HK HB HI0
       have BK291 := n0_
       have HO296 := n1_
       have HO302 := n2_
       have HO305 := n3_
       have BK306 := n4_
       have HL311_0 := n5_
       have HX311_0 := n6_
       have HK := n7_
       have HB := n8_
       have HI0 := n9_
       clear n0_ n1_ n2_ n3_ n4_ n5_ n6_ n7_ n8_ n9_
       (try clear hb)
       (try clear hb2)
       (try clear hk)
       (try clear hi)
       have p26 : 0 ≤ (t312 : Int) := of_decide_eq_true (by first | (with_reducible assumption) | assumption)
       have q26 : (t312 : Int) < (((rd_L1 t300 t309).length : Int) : Int) := of_decide_eq_true (by first | (with_reducible assumption) | assumption)
       obtain ⟨go26, co26, eo26, gb26, gl26, cl26, HG26⟩ := Kd.R_form HL311_0.out (by omega)
       (first | cases eo26 | (injection eo26 with ea_ en_ ec_; (first | subst ea_ | (injection ea_ with ea_; subst ea_)); subst ec_; clear en_))
       have GB26 := asd gb26
       have GG26 := asd HG26
       clear gb26 gl26 HG26
       obtain ⟨hx26_0, hf26_0⟩ := Kd.R_celln false HL311_0.out (t312 : Int) p26 q26
       replace p26 := eq_true p26
       replace q26 := eq_true q26
       have hq31 : (t309 : Int) < (t300.length : Int) := (by have h_ : (t309 : Int) < ((t300.length : Int) : Int) := of_decide_eq_true (by first | (with_reducible assumption) | assumption); first | exact h_ | (have e_ := (Kd.S_reads' HO302.out).1; omega) | simpa only [List.length_set, List.length_set] using h_)
       obtain ⟨oki31, ce31, hcl31, hM31, hcc31, hok31, hbk31⟩ := Kd.S_borrow HO302.out [] (t309 : Int) (of_decide_eq_true (by first | (with_reducible assumption) | assumption)) hq31
       obtain ⟨ve31_0, rfl, ge31_0⟩ := hM31
       have hv31 := hcc31 0 _ rfl
       rw [Nat.add_zero, show ((Kd.slice 4 Kd.bool)).sz = 1 from rfl, Nat.mul_one] at hv31
       replace hv31 := Option.some.inj (hv31.symm.trans HX311_0.out)
       subst hv31
       clear hcc31 hcl31
       replace ge31_0 := (show Kd.R Kd.bool 4 _ _ _ _ (rd_L1 t300 t309) from ge31_0)
       have HP31 := Kd.R_putg ge31_0 (t312 : Int) (t314 == 0)
       have HN0_go26 := asd (show g ≠ go26 from by have h_ := IsS95.own_ne HI0.out HL311_0.out (by decide); intro e_; exact h_ (by rw [e_]; rfl))
       rw [← Ny316.out] at HP31
       have HS31 := hbk31 HP31.2 (fun k_ e_ => by injection e_ with e_; subst e_; exact ge31_0.1 _ rfl) (x' := y316) (Kd.M_row HP31.1)
       rw [← Ny318.out] at HS31
       have HQ31 := asd HS31
       have HGB_ := asd ((hok31 go26 (ge31_0.1 _ rfl)).1.1.2 : go26 < B_)
       clear HP31 HS31 hbk31 hok31
       refine hK.out _ _ ⟨(blk_cell BK306.out 0).trans rfl, (blk_cell BK306.out 1).trans rfl, (blk_cell BK306.out 2).trans rfl, (blk_cell BK306.out 3).trans rfl, HS4_⟩ (fun hHeld => ?_)
       clear hK K
       refine norm_ (a' := ?_) ?_ ?_
       rotate_left
       ·show Act.put _ (some 33) _ = _
        simp only [Act.put, List.setIfInBounds_toArray, List.set_cons_zero, List.set_cons_succ, i64_w, i32_w]
        rfl
       refine pure_ (i := 13) (N := some 34) (v := ?_) (a' := ?_) #[true, true, true, true, true, true, true, true, true, true, true, true, true, true, false, false] rfl rfl (any_of HT_.out (by kernel_rfl)) (fun _ _ _ h => h) (Or.inl ⟨by rfl, ?_⟩) ?_ ?_
       rotate_left
       ·intro w'
        go_simp
        with_reducible rfl
       rotate_left
       ·simp only [Act.put, List.setIfInBounds_toArray, List.set_cons_zero, List.set_cons_succ, i64_w, i32_w]
        rfl
       refine pure_ (i := 14) (N := some 35) (v := ?_) (a' := ?_) #[true, true, true, true, true, true, true, true, true, true, true, true, true, true, true, false] rfl rfl (any_of HT_.out (by kernel_rfl)) (fun _ _ _ h => h) (Or.inl ⟨by rfl, ?_⟩) ?_ ?_
       rotate_left
       ·intro w'
        go_simp
        with_reducible rfl
       rotate_left
       ·simp only [Act.put, List.setIfInBounds_toArray, List.set_cons_zero, List.set_cons_succ, i64_w, i32_w]
        rfl
       refine last_ (i := 15) (N := none) #[true, true, true, true, true, true, true, true, true, true, true, true, true, true, true, true] rfl rfl (one_of HT_.out (by kernel_rfl)) (by decide) (fun K hK => ?_)
       refine skip_ (w1 := ?_) (by rfl) rfl ?_ ?_
       rotate_left
       ·go_simp
        rfl
       refine hK.out _ _ ?_
       clear hK K
       refine done_ (done_of HT_.out (by kernel_rfl)) ?_
       try go_wp2
       go_meet
       case rel => exact ⟨_, (t315), (y318), (t303), (.slice (some ad311) t300.length co15), (.slice Ao16 t303.length co16), H', ⟨by first | omega | exact Nat.le_refl _⟩, ⟨Kd.Q_of_R ((Kd.S_R (by (with_reducible repeat (first | apply Kd.S_alloc | apply Kd.S_drewN | apply Kd.S_drew)); exact Kd.S_mono HQ31.out (fun _ hk => hk.1))))⟩, ⟨by (with_reducible repeat (first | apply Kd.S_alloc | apply Kd.S_drewN | apply Kd.S_drew)); exact Kd.S_mono (Kd.S_far (p := ⟨go26, (t312 : Int).toNat, none⟩) (Kd.S_mono HO305.out (fun k_ hk => (⟨hk, fun e_ => Nat.not_le.2 HGB_.out (by rw [← e_]; exact hk.1.2)⟩ : _ ∧ k_ ≠ go26))) (fun _ hk => hk.2) (.bool (t314 == 0))) (fun _ hk => hk.1.1)⟩, ⟨by (with_reducible repeat (first | refine blk_drewN ?_ _ | refine blk_drew ?_ | refine blk_alloc ?_ _)); refine blk_far ?_ (by have h_ := Kd.R_ne HL311_0.out BK291.out (by decide); intro e_; exact h_ (by rw [e_]; rfl)) _; (with_reducible repeat (first | refine blk_drewN ?_ _ | refine blk_drew ?_ | refine blk_alloc ?_ _)); exact BK291.out⟩, ⟨by (with_reducible repeat (first | refine blk_drewN ?_ _ | refine blk_drew ?_ | refine blk_alloc ?_ _)); refine blk_far ?_ (by have h_ := Kd.R_ne HL311_0.out BK306.out (by decide); intro e_; exact h_ (by rw [e_]; rfl)) _; (with_reducible repeat (first | refine blk_drewN ?_ _ | refine blk_drew ?_ | refine blk_alloc ?_ _)); exact BK306.out⟩, ⟨by repeat (first | (with_reducible first | exact HI0.out | apply IsS95.alloc | apply IsS95.drewN | apply IsS95.drew | apply IsS95.set_1 | refine IsS95.far ?_ HN0_go26.out _ | refine IsS95.far ?_ NB0_291.out _ | refine IsS95.far ?_ NB0_306.out _) | exact HI0.out)⟩, ⟨by repeat (first | (with_reducible first | exact HK.out | apply KeepBut.set_ | apply keep_drewN | apply keep_drew | apply keep_alloc | refine keep_far ?_ GB26.out _ | refine keep_far ?_ GW291.out _ | refine keep_far ?_ GW306.out _) | exact HK.out)⟩, ⟨by repeat (first | (with_reducible first | exact HB.out | apply below_alloc | apply pw_below_drewN | apply below_drew1 | refine below_set ?_ (Nat.le_trans HL.out GB26.out) | refine below_set ?_ (IsS95.ge HI0.out) | refine below_set ?_ GE291.out | refine below_set ?_ GE306.out) | exact HB.out)⟩⟩
      ·rw [if_neg c25] at H
       exact absurd H (by simp)
     ·rw [if_neg c24] at H
      exact absurd H (by simp)
    ·rw [if_neg c21] at H
     exact absurd H (by simp)
   ·rw [if_neg c20] at H
    exact absurd H (by simp)
  ·replace c18 := Bool.eq_false_iff.mpr c18
   subst c18
   have H1 : (spec_l20Loop.j0 k a1 s0_0 t308 t298 t299 t300 t303) = some (r1, r2, r3, r4, r5) := by rw [if_neg (show ¬ (false = true) by decide)] at H; exact H
   clear H
   have H := H1
   clear H1
   have H' := asd H
   clear H
   go_wp2
   go_meet
   case rel => exact ⟨_, (t308), (t300), (t303), (.slice Ao15 t300.length co15), (.slice Ao16 t303.length co16), H', ⟨by first | omega | exact Nat.le_refl _⟩, ⟨Kd.Q_of_R ((Kd.S_R (by (with_reducible repeat (first | apply Kd.S_alloc | apply Kd.S_drewN | apply Kd.S_drew)); exact Kd.S_mono HO302.out (fun _ hk => hk.1))))⟩, ⟨by (with_reducible repeat (first | apply Kd.S_alloc | apply Kd.S_drewN | apply Kd.S_drew)); exact Kd.S_mono HO305.out (fun _ hk => hk.1)⟩, ⟨by (with_reducible repeat (first | refine blk_drewN ?_ _ | refine blk_drew ?_ | refine blk_alloc ?_ _)); exact BK291.out⟩, ⟨by (with_reducible repeat (first | refine blk_drewN ?_ _ | refine blk_drew ?_ | refine blk_alloc ?_ _)); exact BK306.out⟩, ⟨by repeat (first | (with_reducible first | exact HI0.out | apply IsS95.alloc | apply IsS95.drewN | apply IsS95.drew | apply IsS95.set_1 | refine IsS95.far ?_ NB0_291.out _ | refine IsS95.far ?_ NB0_306.out _) | exact HI0.out)⟩, ⟨by repeat (first | (with_reducible first | exact HK.out | apply KeepBut.set_ | apply keep_drewN | apply keep_drew | apply keep_alloc | refine keep_far ?_ GW291.out _ | refine keep_far ?_ GW306.out _) | exact HK.out)⟩, ⟨by repeat (first | (with_reducible first | exact HB.out | apply below_alloc | apply pw_below_drewN | apply below_drew1 | refine below_set ?_ (IsS95.ge HI0.out) | refine below_set ?_ GE291.out | refine below_set ?_ GE306.out) | exact HB.out)⟩⟩
 case rest =>
  clear HC6; try clear c1; try clear c2; try clear p2; try clear q2; try clear hx2; try clear hf2; try clear c3; try clear p3; try clear q3; try clear hx3; try clear c4; try clear p6; try clear c8; try clear c12; try clear c13; try clear c18; try clear c20; try clear c20b0; try clear c21; try clear c21b0; try clear c24; try clear c24b0; try clear c25; try clear c25b0; try clear p26; try clear q26; try clear hx26; try clear hf26; try clear c31; try clear p31; try clear q31; try clear hx31; try clear hcz14_0; try clear hcz14_1; try clear hcz14_2; try clear hcz14_3; try clear hfz14_0; try clear hfz14_1; try clear hfz14_2; try clear hfz14_3; try clear hx26_0; try clear hx311_0; try clear p311; try clear q311
  obtain ⟨kq, x1001_5, x307002_5, x307003_5, u307002, u307003, HA, HJ5, HO_307002, HO_307003, BK291, BK306, HI0, HK, HB⟩ := hcut
  cases kq with
  | zero => exact absurd HA.out (by simp [spec_l20Loop.j0])
  | succ kj5 =>
   have H := HA.out
   clear HA
   simp only [spec_l20Loop.j0] at H
   replace H := Option.bind_eq_some_iff.mp H
   obtain ⟨⟨t319, t320⟩, A330, H⟩ := H
   replace H : (if t319 = true then ((spec_l20Rd_pick.f kj5 s0_0 t320 4).bind fun bt321 => (if bt321.1 = 0 then ((some (([0, 5] : List Int) : List Int)).bind fun y323 => ((spec_l20Rd_pick.f kj5 s0_0 bt321.2 2).bind fun bt326 => (if 0 ≤ bt326.1 then (if bt326.1 < (y323.length : Int) then (some (rd y323 bt326.1, t299, x307002_5, x307003_5, bt326.2)) else (none)) else (none)))) else (if bt321.1 = 1 then (if 1 ≤ (x307002_5.length : Int) then (some (t298, t299, (x307002_5.drop (1 : Int).toNat), x307003_5, bt321.2)) else (none)) else (if bt321.1 = 2 then (if x307003_5.length < 5864062014805 then (some (t298, t299, x307002_5, (x307003_5 ++ [(([] : List Bool))]), bt321.2)) else (none)) else (if 0 < (x307003_5.length : Int) then (if (rd_L1 x307003_5 0).length < 140737488355328 then (some (t298, t299, x307002_5, (x307003_5.set (0 : Int).toNat ((rd_L1 x307003_5 0) ++ [true])), bt321.2)) else (none)) else (none)))))) else (some (t298, t299, x307002_5, x307003_5, t320))) = some (r1, r2, r3, r4, r5) := H
   have A33 := asd A330
   clear A330
   by_cases c34 : t319 = true
   ·subst c34
    have H1 : ((spec_l20Rd_pick.f kj5 s0_0 t320 4).bind fun bt321 => (if bt321.1 = 0 then ((some (([0, 5] : List Int) : List Int)).bind fun y323 => ((spec_l20Rd_pick.f kj5 s0_0 bt321.2 2).bind fun bt326 => (if 0 ≤ bt326.1 then (if bt326.1 < (y323.length : Int) then (some (rd y323 bt326.1, t299, x307002_5, x307003_5, bt326.2)) else (none)) else (none)))) else (if bt321.1 = 1 then (if 1 ≤ (x307002_5.length : Int) then (some (t298, t299, (x307002_5.drop (1 : Int).toNat), x307003_5, bt321.2)) else (none)) else (if bt321.1 = 2 then (if x307003_5.length < 5864062014805 then (some (t298, t299, x307002_5, (x307003_5 ++ [(([] : List Bool))]), bt321.2)) else (none)) else (if 0 < (x307003_5.length : Int) then (if (rd_L1 x307003_5 0).length < 140737488355328 then (some (t298, t299, x307002_5, (x307003_5.set (0 : Int).toNat ((rd_L1 x307003_5 0) ++ [true])), bt321.2)) else (none)) else (none)))))) = some (r1, r2, r3, r4, r5) := by rw [if_pos rfl] at H; exact H
    clear H
    have H := H1
    clear H1
    replace H := Option.bind_eq_some_iff.mp H
    obtain ⟨⟨t321, t322⟩, A350, H⟩ := H
    replace H : (if t321 = 0 then ((some (([0, 5] : List Int) : List Int)).bind fun y323 => ((spec_l20Rd_pick.f kj5 s0_0 t322 2).bind fun bt326 => (if 0 ≤ bt326.1 then (if bt326.1 < (y323.length : Int) then (some (rd y323 bt326.1, t299, x307002_5, x307003_5, bt326.2)) else (none)) else (none)))) else (if t321 = 1 then (if 1 ≤ (x307002_5.length : Int) then (some (t298, t299, (x307002_5.drop (1 : Int).toNat), x307003_5, t322)) else (none)) else (if t321 = 2 then (if x307003_5.length < 5864062014805 then (some (t298, t299, x307002_5, (x307003_5 ++ [(([] : List Bool))]), t322)) else (none)) else (if 0 < (x307003_5.length : Int) then (if (rd_L1 x307003_5 0).length < 140737488355328 then (some (t298, t299, x307002_5, (x307003_5.set (0 : Int).toNat ((rd_L1 x307003_5 0) ++ [true])), t322)) else (none)) else (none))))) = some (r1, r2, r3, r4, r5) := H
    have A35 := asd A350
    clear A350
    by_cases c36 : t321 = 0
    ·rw [if_pos c36] at H
     have c36b0 : (t321 == 0) = true := beq_iff_eq.mpr c36
     have c36b1 : (t321 != 0) = false := bne_eq_false_iff_eq.mpr c36
     clear c36
     obtain ⟨y323, hy323⟩ : ∃ y_ : List Int, y_ = (([0, 5] : List Int)) := ⟨_, rfl⟩
     replace H : ((spec_l20Rd_pick.f kj5 s0_0 t322 2).bind fun bt326 => (if 0 ≤ bt326.1 then (if bt326.1 < (y323.length : Int) then (some (rd y323 bt326.1, t299, x307002_5, x307003_5, bt326.2)) else (none)) else (none))) = some (r1, r2, r3, r4, r5) := by first | (rw [hy323]; with_reducible exact H) | (have H2_ := (Option.bind_some _ _).symm.trans H; rw [hy323]; with_reducible exact H2_) | (have H2_ := (Option.bind_some _ _).symm.trans H; with_reducible exact H2_) | with_reducible exact H | (rw [hy323]; exact H) | exact H
     have Ny323 := asd hy323
     clear hy323
     replace H := Option.bind_eq_some_iff.mp H
     obtain ⟨⟨t326, t327⟩, A370, H⟩ := H
     replace H : (if 0 ≤ t326 then (if t326 < (y323.length : Int) then (some (rd y323 t326, t299, x307002_5, x307003_5, t327)) else (none)) else (none)) = some (r1, r2, r3, r4, r5) := H
     have A37 := asd A370
     clear A370
     by_cases c38 : 0 ≤ t326
     ·rw [if_pos c38] at H
      have c38b0 : decide (0 ≤ t326) = true := decide_eq_true c38
      clear c38
      by_cases c39 : t326 < (y323.length : Int)
      ·rw [if_pos c39] at H
       have c39b0 : decide (t326 < (y323.length : Int)) = true := decide_eq_true c39
       clear c39
       simp only [Option.some.injEq, Prod.mk.injEq] at H
       obtain ⟨rfl, rfl, rfl, rfl, rfl⟩ := H
       have n0_ := asd (Kd.Q_mono HO_307002.out (fun _ hk => hk.1))
       have n1_ := asd (Kd.S_mono HO_307003.out (fun _ hk => hk.1))
       clear HO_307002 HO_307003
       have HO_307002 := n0_
       have HO_307003 := n1_
       clear n0_ n1_
       go_wp2_with (first | ((with_reducible refine gate_callee (f := 85) rfl ?_); refine goesL_ (some 38) rfl rfl Try.func85 (by kernel_rfl) rfl #[.pointer (some ⟨g, 0, none⟩), .int .i64 a1] rfl (by (try simp only [List.map_toArray, List.map_cons, List.map_nil]); first | done | rfl | (simp only [List.length_drop, List.length_take]; rfl)) ?_; (with_reducible refine (spec_l20Rd_odd.calls kj5 g s0_0 x1001_5 a1 true t320 w0 _ ?side1 ?side2 A33.out).mono ?_); (case side1 => repeat (first | (with_reducible first | exact HI0.out | apply IsS95.alloc | apply IsS95.drewN | apply IsS95.drew | apply IsS95.set_1 | refine IsS95.far ?_ NB0_291.out _ | refine IsS95.far ?_ NB0_306.out _) | exact HI0.out)); (case side2 => repeat (first | (with_reducible first | exact HB.out | apply below_alloc | apply pw_below_drewN | apply below_drew1 | refine below_set ?_ (IsS95.ge HI0.out) | refine below_set ?_ GE291.out | refine below_set ?_ GE306.out) | exact HB.out)); rintro e w40 ⟨rfl, hi, hb, hk⟩; refine ⟨_, rfl, ?_⟩; have n0_ := asd (Kd.Q_mono (Kd.Q_keep (IsS95.apartQ (show IsS95 w0 _ g s0_0 x1001_5 from by repeat (first | (with_reducible first | exact HI0.out | apply IsS95.alloc | apply IsS95.drewN | apply IsS95.drew | apply IsS95.set_1 | refine IsS95.far ?_ NB0_291.out _ | refine IsS95.far ?_ NB0_306.out _) | exact HI0.out)) (by (with_reducible repeat (first | apply Kd.Q_alloc | apply Kd.Q_drewN | apply Kd.Q_drew)); exact HO_307002.out) (by decide)) hk (fun _ h => h.2)) (fun _ h => h.1)); have n1_ := asd (Kd.S_mono (Kd.S_keep (IsS95.apartS (show IsS95 w0 _ g s0_0 x1001_5 from by repeat (first | (with_reducible first | exact HI0.out | apply IsS95.alloc | apply IsS95.drewN | apply IsS95.drew | apply IsS95.set_1 | refine IsS95.far ?_ NB0_291.out _ | refine IsS95.far ?_ NB0_306.out _) | exact HI0.out)) (by (with_reducible repeat (first | apply Kd.S_alloc | apply Kd.S_drewN | apply Kd.S_drew)); exact HO_307003.out) (by decide)) hk (fun _ h => h.2)) (fun _ h => h.1)); have n2_ := asd (KeepBut.blk hk (g' := gb291) (o := .cells #[.int .i64 0, .int .i64 0, .slice none 0 0, .slice none 0 0] 27 (0, 0)) (by (with_reducible repeat (first | refine blk_drewN ?_ _ | refine blk_drew ?_ | refine blk_alloc ?_ _)); exact BK291.out) NB291_0.out (by simp)); have n3_ := asd (KeepBut.blk hk (g' := gb306) (o := .cells #[.int .i64 t298, .int .i64 t299, u307002, u307003] 27 (0, 0)) (by (with_reducible repeat (first | refine blk_drewN ?_ _ | refine blk_drew ?_ | refine blk_alloc ?_ _)); exact BK306.out) NB306_0.out (by simp)); have n4_ := asd (KeepBut.trans (by repeat (first | (with_reducible first | exact HK.out | apply KeepBut.set_ | apply keep_drewN | apply keep_drew | apply keep_alloc | refine keep_far ?_ GW291.out _ | refine keep_far ?_ GW306.out _) | exact HK.out)) hk (.inl rfl)); have n5_ := asd (hb); have n6_ := asd (hi); clear HO_307002 HO_307003 BK291 BK306 HK HB HI0; have HO_307002 := n0_; have HO_307003 := n1_; have BK291 := n2_; have BK306 := n3_; have HK := n4_; have HB := n5_; have HI0 := n6_; clear n0_ n1_ n2_ n3_ n4_ n5_ n6_) | ((with_reducible refine gate_callee (f := 86) rfl ?_); refine goesL_ (some 40) rfl rfl Try.func86 (by kernel_rfl) rfl #[.pointer (some ⟨g, 0, none⟩), .int .i64 4] rfl (by (try simp only [List.map_toArray, List.map_cons, List.map_nil]); first | done | rfl | (simp only [List.length_drop, List.length_take]; rfl)) ?_; (with_reducible refine (spec_l20Rd_pick.calls kj5 g s0_0 t320 4 t321 t322 w0 _ ?side1 ?side2 A35.out).mono ?_); (case side1 => repeat (first | (with_reducible first | exact HI0.out | apply IsS95.alloc | apply IsS95.drewN | apply IsS95.drew | apply IsS95.set_1 | refine IsS95.far ?_ NB0_291.out _ | refine IsS95.far ?_ NB0_306.out _) | exact HI0.out)); (case side2 => repeat (first | (with_reducible first | exact HB.out | apply below_alloc | apply pw_below_drewN | apply below_drew1 | refine below_set ?_ (IsS95.ge HI0.out) | refine below_set ?_ GE291.out | refine below_set ?_ GE306.out) | exact HB.out)); rintro e w41 ⟨rfl, hi, hb, hk⟩; refine ⟨_, rfl, ?_⟩; have n0_ := asd (Kd.Q_mono (Kd.Q_keep (IsS95.apartQ (show IsS95 w0 _ g s0_0 t320 from by repeat (first | (with_reducible first | exact HI0.out | apply IsS95.alloc | apply IsS95.drewN | apply IsS95.drew | apply IsS95.set_1 | refine IsS95.far ?_ NB0_291.out _ | refine IsS95.far ?_ NB0_306.out _) | exact HI0.out)) (by (with_reducible repeat (first | apply Kd.Q_alloc | apply Kd.Q_drewN | apply Kd.Q_drew)); exact HO_307002.out) (by decide)) hk (fun _ h => h.2)) (fun _ h => h.1)); have n1_ := asd (Kd.S_mono (Kd.S_keep (IsS95.apartS (show IsS95 w0 _ g s0_0 t320 from by repeat (first | (with_reducible first | exact HI0.out | apply IsS95.alloc | apply IsS95.drewN | apply IsS95.drew | apply IsS95.set_1 | refine IsS95.far ?_ NB0_291.out _ | refine IsS95.far ?_ NB0_306.out _) | exact HI0.out)) (by (with_reducible repeat (first | apply Kd.S_alloc | apply Kd.S_drewN | apply Kd.S_drew)); exact HO_307003.out) (by decide)) hk (fun _ h => h.2)) (fun _ h => h.1)); have n2_ := asd (KeepBut.blk hk (g' := gb291) (o := .cells #[.int .i64 0, .int .i64 0, .slice none 0 0, .slice none 0 0] 27 (0, 0)) (by (with_reducible repeat (first | refine blk_drewN ?_ _ | refine blk_drew ?_ | refine blk_alloc ?_ _)); exact BK291.out) NB291_0.out (by simp)); have n3_ := asd (KeepBut.blk hk (g' := gb306) (o := .cells #[.int .i64 t298, .int .i64 t299, u307002, u307003] 27 (0, 0)) (by (with_reducible repeat (first | refine blk_drewN ?_ _ | refine blk_drew ?_ | refine blk_alloc ?_ _)); exact BK306.out) NB306_0.out (by simp)); have n4_ := asd (KeepBut.trans (by repeat (first | (with_reducible first | exact HK.out | apply KeepBut.set_ | apply keep_drewN | apply keep_drew | apply keep_alloc | refine keep_far ?_ GW291.out _ | refine keep_far ?_ GW306.out _) | exact HK.out)) hk (.inl rfl)); have n5_ := asd (hb); have n6_ := asd (hi); clear HO_307002 HO_307003 BK291 BK306 HK HB HI0; have HO_307002 := n0_; have HO_307003 := n1_; have BK291 := n2_; have BK306 := n3_; have HK := n4_; have HB := n5_; have HI0 := n6_; clear n0_ n1_ n2_ n3_ n4_ n5_ n6_) | ((with_reducible refine gate_dst (N := 52) rfl ?_); refine Kd.R_lit (Kd.int .i64) _ 3 ?hg (N := 52) ?hd (xs := ([0, 5] : List Int)) (inner := [.int .i64 0, .int .i64 5]) (ok := fun _ => True) (okp := fun _ => True) ?hr ?hp (fun _ hk => hk) trivial (Below.refl _ _) (Nat.le_refl _) (by simp) ?_; (case hd => rfl); (case hg => rfl); (case hr => first | (go_simp; done) | (go_simp; rfl)); (case hp => exact (Reps.one (show Kd.M (Kd.int .i64) _ _ _ 0 [.int .i64 0] from rfl) (Reps.one (show Kd.M (Kd.int .i64) _ _ _ 5 [.int .i64 5] from rfl) (Reps.none _ _)))); intro v324 w42 ho43 hb hg_ hnew_; clear hg_ hnew_; (first | rw [← Ny323.out] at ho43 | (simp only [Int.reduceToNat] at ho43; rw [← Ny323.out] at ho43)); have n0_ := asd (Kd.Q_below (by (with_reducible repeat (first | apply Kd.Q_alloc | apply Kd.Q_drewN | apply Kd.Q_drew)); exact HO_307002.out) hb); have n1_ := asd (Kd.S_below (by (with_reducible repeat (first | apply Kd.S_alloc | apply Kd.S_drewN | apply Kd.S_drew)); exact HO_307003.out) hb); have n2_ := asd (Kd.R_lower ho43 (keep_size (w := w) (g := g) (row := none) (by repeat (first | (with_reducible first | exact HK.out | apply KeepBut.set_ | apply keep_drewN | apply keep_drew | apply keep_alloc | refine keep_far ?_ GW291.out _ | refine keep_far ?_ GW306.out _) | exact HK.out)))); have n3_ := asd (blk_below (g := gb291) (o := .cells #[.int .i64 0, .int .i64 0, .slice none 0 0, .slice none 0 0] 27 (0, 0)) (by (with_reducible repeat (first | refine blk_drewN ?_ _ | refine blk_drew ?_ | refine blk_alloc ?_ _)); exact BK291.out) hb); have n4_ := asd (blk_below (g := gb306) (o := .cells #[.int .i64 t298, .int .i64 t299, u307002, u307003] 27 (0, 0)) (by (with_reducible repeat (first | refine blk_drewN ?_ _ | refine blk_drew ?_ | refine blk_alloc ?_ _)); exact BK306.out) hb); have n5_ := asd (IsS95.below (by repeat (first | (with_reducible first | exact HI0.out | apply IsS95.alloc | apply IsS95.drewN | apply IsS95.drew | apply IsS95.set_1 | refine IsS95.far ?_ NB0_291.out _ | refine IsS95.far ?_ NB0_306.out _) | exact HI0.out)) hb); have n6_ := asd (KeepBut.trans (by repeat (first | (with_reducible first | exact HK.out | apply KeepBut.set_ | apply keep_drewN | apply keep_drew | apply keep_alloc | refine keep_far ?_ GW291.out _ | refine keep_far ?_ GW306.out _) | exact HK.out)) (KeepBut.of_below hb g none) (.inl rfl)); have n7_ := asd (below_step (by repeat (first | (with_reducible first | exact HB.out | apply below_alloc | apply pw_below_drewN | apply below_drew1 | refine below_set ?_ (IsS95.ge HI0.out) | refine below_set ?_ GE291.out | refine below_set ?_ GE306.out) | exact HB.out)) hb); clear HO_307002 HO_307003 BK291 BK306 HI0 HK HB; have HO_307002 := n0_; have HO_307003 := n1_; have HO325 := n2_; have BK291 := n3_; have BK306 := n4_; have HI0 := n5_; have HK := n6_; have HB := n7_; clear n0_ n1_ n2_ n3_ n4_ n5_ n6_ n7_; clear hb ho43) | ((with_reducible refine gate_callee (f := 86) rfl ?_); refine goesL_ (some 54) rfl rfl Try.func86 (by kernel_rfl) rfl #[.pointer (some ⟨g, 0, none⟩), .int .i64 2] rfl (by (try simp only [List.map_toArray, List.map_cons, List.map_nil]); first | done | rfl | (simp only [List.length_drop, List.length_take]; rfl)) ?_; (with_reducible refine (spec_l20Rd_pick.calls kj5 g s0_0 t322 2 t326 t327 w0 _ ?side1 ?side2 A37.out).mono ?_); (case side1 => repeat (first | (with_reducible first | exact HI0.out | apply IsS95.alloc | apply IsS95.drewN | apply IsS95.drew | apply IsS95.set_1 | refine IsS95.far ?_ NB0_291.out _ | refine IsS95.far ?_ NB0_306.out _) | exact HI0.out)); (case side2 => repeat (first | (with_reducible first | exact HB.out | apply below_alloc | apply pw_below_drewN | apply below_drew1 | refine below_set ?_ (IsS95.ge HI0.out) | refine below_set ?_ GE291.out | refine below_set ?_ GE306.out) | exact HB.out)); rintro e w44 ⟨rfl, hi, hb, hk⟩; refine ⟨_, rfl, ?_⟩; have n0_ := asd (Kd.Q_mono (Kd.Q_keep (IsS95.apartQ (show IsS95 w0 _ g s0_0 t322 from by repeat (first | (with_reducible first | exact HI0.out | apply IsS95.alloc | apply IsS95.drewN | apply IsS95.drew | apply IsS95.set_1 | refine IsS95.far ?_ NB0_291.out _ | refine IsS95.far ?_ NB0_306.out _) | exact HI0.out)) (by (with_reducible repeat (first | apply Kd.Q_alloc | apply Kd.Q_drewN | apply Kd.Q_drew)); exact HO_307002.out) (by decide)) hk (fun _ h => h.2)) (fun _ h => h.1)); have n1_ := asd (Kd.S_mono (Kd.S_keep (IsS95.apartS (show IsS95 w0 _ g s0_0 t322 from by repeat (first | (with_reducible first | exact HI0.out | apply IsS95.alloc | apply IsS95.drewN | apply IsS95.drew | apply IsS95.set_1 | refine IsS95.far ?_ NB0_291.out _ | refine IsS95.far ?_ NB0_306.out _) | exact HI0.out)) (by (with_reducible repeat (first | apply Kd.S_alloc | apply Kd.S_drewN | apply Kd.S_drew)); exact HO_307003.out) (by decide)) hk (fun _ h => h.2)) (fun _ h => h.1)); have n2_ := asd (KeepBut.blk hk (g' := gb291) (o := .cells #[.int .i64 0, .int .i64 0, .slice none 0 0, .slice none 0 0] 27 (0, 0)) (by (with_reducible repeat (first | refine blk_drewN ?_ _ | refine blk_drew ?_ | refine blk_alloc ?_ _)); exact BK291.out) NB291_0.out (by simp)); have n3_ := asd (KeepBut.blk hk (g' := gb306) (o := .cells #[.int .i64 t298, .int .i64 t299, u307002, u307003] 27 (0, 0)) (by (with_reducible repeat (first | refine blk_drewN ?_ _ | refine blk_drew ?_ | refine blk_alloc ?_ _)); exact BK306.out) NB306_0.out (by simp)); have n4_ := asd (Kd.R_mono (Kd.R_keep (IsS95.apart (show IsS95 w0 _ g s0_0 t322 from by repeat (first | (with_reducible first | exact HI0.out | apply IsS95.alloc | apply IsS95.drewN | apply IsS95.drew | apply IsS95.set_1 | refine IsS95.far ?_ NB0_291.out _ | refine IsS95.far ?_ NB0_306.out _) | exact HI0.out)) (by (with_reducible repeat (first | apply Kd.R_alloc | apply Kd.R_drewN | apply Kd.R_drew)); exact HO325.out) (by decide)) hk (fun _ h => h.2)) (fun _ h => h.1)); have n5_ := asd (KeepBut.trans (by repeat (first | (with_reducible first | exact HK.out | apply KeepBut.set_ | apply keep_drewN | apply keep_drew | apply keep_alloc | refine keep_far ?_ GW291.out _ | refine keep_far ?_ GW306.out _) | exact HK.out)) hk (.inl rfl)); have n6_ := asd (hb); have n7_ := asd (hi); clear HO_307002 HO_307003 BK291 BK306 HO325 HK HB HI0; have HO_307002 := n0_; have HO_307003 := n1_; have BK291 := n2_; have BK306 := n3_; have HO325 := n4_; have HK := n5_; have HB := n6_; have HI0 := n7_; clear n0_ n1_ n2_ n3_ n4_ n5_ n6_ n7_; obtain ⟨Ao45, co45, eo45⟩ := Kd.R_slice HO325.out; subst eo45; have p328 : 0 ≤ (t326 : Int) := of_decide_eq_true (by first | (with_reducible assumption) | assumption); have q328 : t326 < (y323.length : Int) := of_decide_eq_true (by first | (with_reducible assumption) | assumption); obtain ⟨ad328, e328, hx328_0⟩ := Kd.at_int (Kd.R_reads' HO325.out).2.2 t326 p328 q328; cases e328; replace p328 := eq_true p328; replace q328 := eq_true q328; have hnb46 := NB306_291.out; have hnc46 := NB291_306.out; have hnb47 := NB306_0.out; have hnc47 := NB0_306.out; have hcz48_0 : w44.cell? ⟨gb306, 0, none⟩ = some (.int .i64 t298) := (blk_cell BK306.out 0).trans rfl; have hcz48_1 : w44.cell? ⟨gb306, 1, none⟩ = some (.int .i64 t299) := (blk_cell BK306.out 1).trans rfl; have hcz48_2 : w44.cell? ⟨gb306, 2, none⟩ = some (u307002) := (blk_cell BK306.out 2).trans rfl; have hcz48_3 : w44.cell? ⟨gb306, 3, none⟩ = some (u307003) := (blk_cell BK306.out 3).trans rfl; have hfz48_0 := blk_frozen BK306.out 0; have hfz48_1 := blk_frozen BK306.out 1; have hfz48_2 := blk_frozen BK306.out 2; have hfz48_3 := blk_frozen BK306.out 3; have hnb49 := NB291_0.out; have hnc49 := NB0_291.out; have hcz50_0 : w44.cell? ⟨gb291, 0, none⟩ = some (.int .i64 0) := (blk_cell BK291.out 0).trans rfl; have hcz50_1 : w44.cell? ⟨gb291, 1, none⟩ = some (.int .i64 0) := (blk_cell BK291.out 1).trans rfl; have hcz50_2 : w44.cell? ⟨gb291, 2, none⟩ = some (.slice none 0 0) := (blk_cell BK291.out 2).trans rfl; have hcz50_3 : w44.cell? ⟨gb291, 3, none⟩ = some (.slice none 0 0) := (blk_cell BK291.out 3).trans rfl; have hfz50_0 := blk_frozen BK291.out 0; have hfz50_1 := blk_frozen BK291.out 1; have hfz50_2 := blk_frozen BK291.out 2; have hfz50_3 := blk_frozen BK291.out 3; obtain ⟨Ao51, co51, eo51, _⟩ := Kd.Q_slice HO_307002.out; subst eo51; obtain ⟨Ao52, co52, eo52⟩ := Kd.S_slice HO_307003.out; subst eo52))
       refine bodyPost_ret (results_cell_row rfl _ _ gb291 27 #[.int .i64 (rd y323 t326), .int .i64 t299, .slice Ao51 x307002_5.length co51, .slice Ao52 x307003_5.length co52] (0, 0) _ rfl (by (with_reducible repeat (first | refine blk_drewN ?_ _ | refine blk_drew ?_ | refine blk_alloc ?_ _)); refine blk_put (cs := #[.int .i64 (rd y323 t326), .int .i64 t299, .slice Ao51 x307002_5.length co51, .slice none 0 0]) ?_ 3 _ rfl; (with_reducible repeat (first | refine blk_drewN ?_ _ | refine blk_drew ?_ | refine blk_alloc ?_ _)); refine blk_put (cs := #[.int .i64 (rd y323 t326), .int .i64 t299, .slice none 0 0, .slice none 0 0]) ?_ 2 _ rfl; (with_reducible repeat (first | refine blk_drewN ?_ _ | refine blk_drew ?_ | refine blk_alloc ?_ _)); refine blk_put (cs := #[.int .i64 (rd y323 t326), .int .i64 0, .slice none 0 0, .slice none 0 0]) ?_ 1 _ rfl; (with_reducible repeat (first | refine blk_drewN ?_ _ | refine blk_drew ?_ | refine blk_alloc ?_ _)); refine blk_put (cs := #[.int .i64 0, .int .i64 0, .slice none 0 0, .slice none 0 0]) ?_ 0 _ rfl; (with_reducible repeat (first | refine blk_drewN ?_ _ | refine blk_drew ?_ | refine blk_alloc ?_ _)); refine blk_far ?_ NB291_306.out _; (with_reducible repeat (first | refine blk_drewN ?_ _ | refine blk_drew ?_ | refine blk_alloc ?_ _)); exact BK291.out) Try.underlying27 rfl (by kernel_rfl)) rfl ?_
       exact ⟨_, _, by first | rfl | (simp [errW_none, errW_some] <;> rfl) | (simp [*, errW_none, errW_some] <;> rfl), by (with_reducible repeat (first | apply Kd.Q_alloc | apply Kd.Q_drewN | apply Kd.Q_drew)); exact Kd.Q_mono (Kd.Q_far (p := ⟨gb291, 3, none⟩) (Kd.Q_far (p := ⟨gb291, 2, none⟩) (Kd.Q_far (p := ⟨gb291, 1, none⟩) (Kd.Q_far (p := ⟨gb291, 0, none⟩) (Kd.Q_far (p := ⟨gb306, 0, none⟩) (Kd.Q_types (Kd.Q_types HO_307002.out BK306.out (by decide)) BK291.out (by decide)) (fun _ hk => hk.1.2) (.int .i64 (rd y323 t326))) (fun _ hk => hk.2) (.int .i64 (rd y323 t326))) (fun _ hk => hk.2) (.int .i64 t299)) (fun _ hk => hk.2) (.slice Ao51 x307002_5.length co51)) (fun _ hk => hk.2) (.slice Ao52 x307003_5.length co52)) (fun _ hk => hk.1.1), by (with_reducible repeat (first | apply Kd.S_alloc | apply Kd.S_drewN | apply Kd.S_drew)); exact Kd.S_mono (Kd.S_far (p := ⟨gb291, 3, none⟩) (Kd.S_far (p := ⟨gb291, 2, none⟩) (Kd.S_far (p := ⟨gb291, 1, none⟩) (Kd.S_far (p := ⟨gb291, 0, none⟩) (Kd.S_far (p := ⟨gb306, 0, none⟩) (Kd.S_types (Kd.S_types HO_307003.out BK306.out (by decide)) BK291.out (by decide)) (fun _ hk => hk.1.2) (.int .i64 (rd y323 t326))) (fun _ hk => hk.2) (.int .i64 (rd y323 t326))) (fun _ hk => hk.2) (.int .i64 t299)) (fun _ hk => hk.2) (.slice Ao51 x307002_5.length co51)) (fun _ hk => hk.2) (.slice Ao52 x307003_5.length co52)) (fun _ hk => hk.1.1), by repeat (first | (with_reducible first | exact HI0.out | apply IsS95.alloc | apply IsS95.drewN | apply IsS95.drew | apply IsS95.set_1 | refine IsS95.far ?_ NB0_291.out _ | refine IsS95.far ?_ NB0_306.out _) | exact HI0.out), by repeat (first | (with_reducible first | exact HB.out | apply below_alloc | apply pw_below_drewN | apply below_drew1 | refine below_set ?_ (IsS95.ge HI0.out) | refine below_set ?_ GE291.out | refine below_set ?_ GE306.out) | exact HB.out), by repeat (first | (with_reducible first | exact HK.out | apply KeepBut.set_ | apply keep_drewN | apply keep_drew | apply keep_alloc | refine keep_far ?_ GW291.out _ | refine keep_far ?_ GW306.out _) | exact HK.out)⟩
      ·rw [if_neg c39] at H
       exact absurd H (by simp)
     ·rw [if_neg c38] at H
      exact absurd H (by simp)
    ·rw [if_neg c36] at H
     have c36b0 : (t321 == 0) = false := beq_eq_false_iff_ne.mpr c36
     have c36b1 : (t321 != 0) = true := bne_iff_ne.mpr c36
     by_cases c53 : t321 = 1
     ·rw [if_pos c53] at H
      have c53b0 : (t321 == 1) = true := beq_iff_eq.mpr c53
      have c53b1 : (t321 != 1) = false := bne_eq_false_iff_eq.mpr c53
      clear c53
      by_cases c54 : 1 ≤ (x307002_5.length : Int)
      ·rw [if_pos c54] at H
       have c54b0 := eq_true c54
       have c54b1 : decide (1 ≤ (x307002_5.length : Int)) = true := decide_eq_true c54
       clear c54
       obtain ⟨y329, hy329⟩ : ∃ y_ : List (List Bool), y_ = (x307002_5.drop (1 : Int).toNat) := ⟨_, rfl⟩
       replace H : (some (t298, t299, y329, x307003_5, t322)) = some (r1, r2, r3, r4, r5) := by first | (rw [hy329]; with_reducible exact H) | (have H2_ := (Option.bind_some _ _).symm.trans H; rw [hy329]; with_reducible exact H2_) | (have H2_ := (Option.bind_some _ _).symm.trans H; with_reducible exact H2_) | with_reducible exact H | (rw [hy329]; exact H) | exact H
       have Ny329 := asd hy329
       clear hy329
       simp only [Option.some.injEq, Prod.mk.injEq] at H
       obtain ⟨rfl, rfl, rfl, rfl, rfl⟩ := H
       have n0_ := asd (Kd.Q_mono HO_307002.out (fun _ hk => hk.1))
       have n1_ := asd (Kd.S_mono HO_307003.out (fun _ hk => hk.1))
       clear HO_307002 HO_307003
       have HO_307002 := n0_
       have HO_307003 := n1_
       clear n0_ n1_
       go_wp2_with (first | ((with_reducible refine gate_callee (f := 85) rfl ?_); refine goesL_ (some 38) rfl rfl Try.func85 (by kernel_rfl) rfl #[.pointer (some ⟨g, 0, none⟩), .int .i64 a1] rfl (by (try simp only [List.map_toArray, List.map_cons, List.map_nil]); first | done | rfl | (simp only [List.length_drop, List.length_take]; rfl)) ?_; (with_reducible refine (spec_l20Rd_odd.calls kj5 g s0_0 x1001_5 a1 true t320 w0 _ ?side1 ?side2 A33.out).mono ?_); (case side1 => repeat (first | (with_reducible first | exact HI0.out | apply IsS95.alloc | apply IsS95.drewN | apply IsS95.drew | apply IsS95.set_1 | refine IsS95.far ?_ NB0_291.out _ | refine IsS95.far ?_ NB0_306.out _) | exact HI0.out)); (case side2 => repeat (first | (with_reducible first | exact HB.out | apply below_alloc | apply pw_below_drewN | apply below_drew1 | refine below_set ?_ (IsS95.ge HI0.out) | refine below_set ?_ GE291.out | refine below_set ?_ GE306.out) | exact HB.out)); rintro e w55 ⟨rfl, hi, hb, hk⟩; refine ⟨_, rfl, ?_⟩; have n0_ := asd (Kd.Q_mono (Kd.Q_keep (IsS95.apartQ (show IsS95 w0 _ g s0_0 x1001_5 from by repeat (first | (with_reducible first | exact HI0.out | apply IsS95.alloc | apply IsS95.drewN | apply IsS95.drew | apply IsS95.set_1 | refine IsS95.far ?_ NB0_291.out _ | refine IsS95.far ?_ NB0_306.out _) | exact HI0.out)) (by (with_reducible repeat (first | apply Kd.Q_alloc | apply Kd.Q_drewN | apply Kd.Q_drew)); exact HO_307002.out) (by decide)) hk (fun _ h => h.2)) (fun _ h => h.1)); have n1_ := asd (Kd.S_mono (Kd.S_keep (IsS95.apartS (show IsS95 w0 _ g s0_0 x1001_5 from by repeat (first | (with_reducible first | exact HI0.out | apply IsS95.alloc | apply IsS95.drewN | apply IsS95.drew | apply IsS95.set_1 | refine IsS95.far ?_ NB0_291.out _ | refine IsS95.far ?_ NB0_306.out _) | exact HI0.out)) (by (with_reducible repeat (first | apply Kd.S_alloc | apply Kd.S_drewN | apply Kd.S_drew)); exact HO_307003.out) (by decide)) hk (fun _ h => h.2)) (fun _ h => h.1)); have n2_ := asd (KeepBut.blk hk (g' := gb291) (o := .cells #[.int .i64 0, .int .i64 0, .slice none 0 0, .slice none 0 0] 27 (0, 0)) (by (with_reducible repeat (first | refine blk_drewN ?_ _ | refine blk_drew ?_ | refine blk_alloc ?_ _)); exact BK291.out) NB291_0.out (by simp)); have n3_ := asd (KeepBut.blk hk (g' := gb306) (o := .cells #[.int .i64 t298, .int .i64 t299, u307002, u307003] 27 (0, 0)) (by (with_reducible repeat (first | refine blk_drewN ?_ _ | refine blk_drew ?_ | refine blk_alloc ?_ _)); exact BK306.out) NB306_0.out (by simp)); have n4_ := asd (KeepBut.trans (by repeat (first | (with_reducible first | exact HK.out | apply KeepBut.set_ | apply keep_drewN | apply keep_drew | apply keep_alloc | refine keep_far ?_ GW291.out _ | refine keep_far ?_ GW306.out _) | exact HK.out)) hk (.inl rfl)); have n5_ := asd (hb); have n6_ := asd (hi); clear HO_307002 HO_307003 BK291 BK306 HK HB HI0; have HO_307002 := n0_; have HO_307003 := n1_; have BK291 := n2_; have BK306 := n3_; have HK := n4_; have HB := n5_; have HI0 := n6_; clear n0_ n1_ n2_ n3_ n4_ n5_ n6_) | ((with_reducible refine gate_callee (f := 86) rfl ?_); refine goesL_ (some 40) rfl rfl Try.func86 (by kernel_rfl) rfl #[.pointer (some ⟨g, 0, none⟩), .int .i64 4] rfl (by (try simp only [List.map_toArray, List.map_cons, List.map_nil]); first | done | rfl | (simp only [List.length_drop, List.length_take]; rfl)) ?_; (with_reducible refine (spec_l20Rd_pick.calls kj5 g s0_0 t320 4 t321 t322 w0 _ ?side1 ?side2 A35.out).mono ?_); (case side1 => repeat (first | (with_reducible first | exact HI0.out | apply IsS95.alloc | apply IsS95.drewN | apply IsS95.drew | apply IsS95.set_1 | refine IsS95.far ?_ NB0_291.out _ | refine IsS95.far ?_ NB0_306.out _) | exact HI0.out)); (case side2 => repeat (first | (with_reducible first | exact HB.out | apply below_alloc | apply pw_below_drewN | apply below_drew1 | refine below_set ?_ (IsS95.ge HI0.out) | refine below_set ?_ GE291.out | refine below_set ?_ GE306.out) | exact HB.out)); rintro e w56 ⟨rfl, hi, hb, hk⟩; refine ⟨_, rfl, ?_⟩; have n0_ := asd (Kd.Q_mono (Kd.Q_keep (IsS95.apartQ (show IsS95 w0 _ g s0_0 t320 from by repeat (first | (with_reducible first | exact HI0.out | apply IsS95.alloc | apply IsS95.drewN | apply IsS95.drew | apply IsS95.set_1 | refine IsS95.far ?_ NB0_291.out _ | refine IsS95.far ?_ NB0_306.out _) | exact HI0.out)) (by (with_reducible repeat (first | apply Kd.Q_alloc | apply Kd.Q_drewN | apply Kd.Q_drew)); exact HO_307002.out) (by decide)) hk (fun _ h => h.2)) (fun _ h => h.1)); have n1_ := asd (Kd.S_mono (Kd.S_keep (IsS95.apartS (show IsS95 w0 _ g s0_0 t320 from by repeat (first | (with_reducible first | exact HI0.out | apply IsS95.alloc | apply IsS95.drewN | apply IsS95.drew | apply IsS95.set_1 | refine IsS95.far ?_ NB0_291.out _ | refine IsS95.far ?_ NB0_306.out _) | exact HI0.out)) (by (with_reducible repeat (first | apply Kd.S_alloc | apply Kd.S_drewN | apply Kd.S_drew)); exact HO_307003.out) (by decide)) hk (fun _ h => h.2)) (fun _ h => h.1)); have n2_ := asd (KeepBut.blk hk (g' := gb291) (o := .cells #[.int .i64 0, .int .i64 0, .slice none 0 0, .slice none 0 0] 27 (0, 0)) (by (with_reducible repeat (first | refine blk_drewN ?_ _ | refine blk_drew ?_ | refine blk_alloc ?_ _)); exact BK291.out) NB291_0.out (by simp)); have n3_ := asd (KeepBut.blk hk (g' := gb306) (o := .cells #[.int .i64 t298, .int .i64 t299, u307002, u307003] 27 (0, 0)) (by (with_reducible repeat (first | refine blk_drewN ?_ _ | refine blk_drew ?_ | refine blk_alloc ?_ _)); exact BK306.out) NB306_0.out (by simp)); have n4_ := asd (KeepBut.trans (by repeat (first | (with_reducible first | exact HK.out | apply KeepBut.set_ | apply keep_drewN | apply keep_drew | apply keep_alloc | refine keep_far ?_ GW291.out _ | refine keep_far ?_ GW306.out _) | exact HK.out)) hk (.inl rfl)); have n5_ := asd (hb); have n6_ := asd (hi); clear HO_307002 HO_307003 BK291 BK306 HK HB HI0; have HO_307002 := n0_; have HO_307003 := n1_; have BK291 := n2_; have BK306 := n3_; have HK := n4_; have HB := n5_; have HI0 := n6_; clear n0_ n1_ n2_ n3_ n4_ n5_ n6_; have hnb57 := NB306_291.out; have hnc57 := NB291_306.out; have hnb58 := NB306_0.out; have hnc58 := NB0_306.out; have hcz59_0 : w56.cell? ⟨gb306, 0, none⟩ = some (.int .i64 t298) := (blk_cell BK306.out 0).trans rfl; have hcz59_1 : w56.cell? ⟨gb306, 1, none⟩ = some (.int .i64 t299) := (blk_cell BK306.out 1).trans rfl; have hcz59_2 : w56.cell? ⟨gb306, 2, none⟩ = some (u307002) := (blk_cell BK306.out 2).trans rfl; have hcz59_3 : w56.cell? ⟨gb306, 3, none⟩ = some (u307003) := (blk_cell BK306.out 3).trans rfl; have hfz59_0 := blk_frozen BK306.out 0; have hfz59_1 := blk_frozen BK306.out 1; have hfz59_2 := blk_frozen BK306.out 2; have hfz59_3 := blk_frozen BK306.out 3; obtain ⟨Ao60, co60, eo60, _⟩ := Kd.Q_slice HO_307002.out; subst eo60; have q61 : (1 : Int) ≤ ((x307002_5.length : Int) : Int) := of_decide_eq_true (by first | (with_reducible assumption) | assumption); obtain ⟨i061, hi061, _, hsz61, _⟩ := info_parts info45; have hcut61 := cut_from (P := Try.prog) 22 45 .i64 Try.underlying22 hi061 1 hsz61 Ao60 x307002_5.length co60 1 (by omega) q61; have hr61 := Kd.Q_drop (k := (1 : Int).toNat) HO_307002.out (by omega); obtain ⟨A61, hA61⟩ : ∃ A1, A1 = (if co60 = (1 : Int).toNat then Ao60 else (Ao60 : Option Addr).map (·.add ((1 : Int).toNat * 1))) := ⟨_, rfl⟩; obtain ⟨c61, hc61⟩ : ∃ c1, c1 = co60 - (1 : Int).toNat := ⟨_, rfl⟩; have hy61 : y329.length = x307002_5.length - (1 : Int).toNat := (by rw [Ny329.out, List.length_drop]); rw [← Ny329.out] at hr61; rw [← hy61, ← hA61, ← hc61] at hcut61; replace hr61 : Kd.Q (Kd.slice 4 Kd.bool) 45 w56 w.heap.size (fun k_ => some k_ ≠ (u307003 : Value).ownBlock) (.slice A61 y329.length c61) y329 := (by rw [hA61, hc61, hy61]; exact hr61); have HE61 : Aside0 ((Value.slice A61 y329.length c61).ownBlock = (.slice Ao60 x307002_5.length co60 : Value).ownBlock) := ⟨by rw [hA61]; split <;> (cases (Ao60 : Option Addr) <;> rfl)⟩; clear hy61 hi061 hsz61 HO_307002 hA61 hc61; have HO331 := asd hr61; clear hr61; replace q61 := eq_true q61; have n_ := asd (Kd.S_mono (ok' := fun k_ => some k_ ≠ (.slice A61 y329.length c61 : Value).ownBlock) HO_307003.out (fun k_ hk => (by rw [HE61.out]; exact hk))); clear HO_307003; have HO_307003 := n_; clear n_; have hnb62 := NB291_0.out; have hnc62 := NB0_291.out; have hcz63_0 : w56.cell? ⟨gb291, 0, none⟩ = some (.int .i64 0) := (blk_cell BK291.out 0).trans rfl; have hcz63_1 : w56.cell? ⟨gb291, 1, none⟩ = some (.int .i64 0) := (blk_cell BK291.out 1).trans rfl; have hcz63_2 : w56.cell? ⟨gb291, 2, none⟩ = some (.slice none 0 0) := (blk_cell BK291.out 2).trans rfl; have hcz63_3 : w56.cell? ⟨gb291, 3, none⟩ = some (.slice none 0 0) := (blk_cell BK291.out 3).trans rfl; have hfz63_0 := blk_frozen BK291.out 0; have hfz63_1 := blk_frozen BK291.out 1; have hfz63_2 := blk_frozen BK291.out 2; have hfz63_3 := blk_frozen BK291.out 3; obtain ⟨Ao64, co64, eo64⟩ := Kd.S_slice HO_307003.out; subst eo64))
       refine bodyPost_ret (results_cell_row rfl _ _ gb291 27 #[.int .i64 t298, .int .i64 t299, .slice A61 y329.length c61, .slice Ao64 x307003_5.length co64] (0, 0) _ rfl (by (with_reducible repeat (first | refine blk_drewN ?_ _ | refine blk_drew ?_ | refine blk_alloc ?_ _)); refine blk_put (cs := #[.int .i64 t298, .int .i64 t299, .slice A61 y329.length c61, .slice none 0 0]) ?_ 3 _ rfl; (with_reducible repeat (first | refine blk_drewN ?_ _ | refine blk_drew ?_ | refine blk_alloc ?_ _)); refine blk_put (cs := #[.int .i64 t298, .int .i64 t299, .slice none 0 0, .slice none 0 0]) ?_ 2 _ rfl; (with_reducible repeat (first | refine blk_drewN ?_ _ | refine blk_drew ?_ | refine blk_alloc ?_ _)); refine blk_put (cs := #[.int .i64 t298, .int .i64 0, .slice none 0 0, .slice none 0 0]) ?_ 1 _ rfl; (with_reducible repeat (first | refine blk_drewN ?_ _ | refine blk_drew ?_ | refine blk_alloc ?_ _)); refine blk_put (cs := #[.int .i64 0, .int .i64 0, .slice none 0 0, .slice none 0 0]) ?_ 0 _ rfl; (with_reducible repeat (first | refine blk_drewN ?_ _ | refine blk_drew ?_ | refine blk_alloc ?_ _)); refine blk_far ?_ NB291_306.out _; (with_reducible repeat (first | refine blk_drewN ?_ _ | refine blk_drew ?_ | refine blk_alloc ?_ _)); exact BK291.out) Try.underlying27 rfl (by kernel_rfl)) rfl ?_
       exact ⟨_, _, by first | rfl | (simp [errW_none, errW_some] <;> rfl) | (simp [*, errW_none, errW_some] <;> rfl), by (with_reducible repeat (first | apply Kd.Q_alloc | apply Kd.Q_drewN | apply Kd.Q_drew)); exact Kd.Q_mono (Kd.Q_far (p := ⟨gb291, 3, none⟩) (Kd.Q_far (p := ⟨gb291, 2, none⟩) (Kd.Q_far (p := ⟨gb291, 1, none⟩) (Kd.Q_far (p := ⟨gb291, 0, none⟩) (Kd.Q_far (p := ⟨gb306, 2, none⟩) (Kd.Q_types (Kd.Q_types HO331.out BK306.out (by decide)) BK291.out (by decide)) (fun _ hk => hk.1.2) (.slice A61 y329.length c61)) (fun _ hk => hk.2) (.int .i64 t298)) (fun _ hk => hk.2) (.int .i64 t299)) (fun _ hk => hk.2) (.slice A61 y329.length c61)) (fun _ hk => hk.2) (.slice Ao64 x307003_5.length co64)) (fun _ hk => hk.1.1), by (with_reducible repeat (first | apply Kd.S_alloc | apply Kd.S_drewN | apply Kd.S_drew)); exact Kd.S_mono (Kd.S_far (p := ⟨gb291, 3, none⟩) (Kd.S_far (p := ⟨gb291, 2, none⟩) (Kd.S_far (p := ⟨gb291, 1, none⟩) (Kd.S_far (p := ⟨gb291, 0, none⟩) (Kd.S_far (p := ⟨gb306, 2, none⟩) (Kd.S_types (Kd.S_types HO_307003.out BK306.out (by decide)) BK291.out (by decide)) (fun _ hk => hk.1.2) (.slice A61 y329.length c61)) (fun _ hk => hk.2) (.int .i64 t298)) (fun _ hk => hk.2) (.int .i64 t299)) (fun _ hk => hk.2) (.slice A61 y329.length c61)) (fun _ hk => hk.2) (.slice Ao64 x307003_5.length co64)) (fun _ hk => hk.1.1), by repeat (first | (with_reducible first | exact HI0.out | apply IsS95.alloc | apply IsS95.drewN | apply IsS95.drew | apply IsS95.set_1 | refine IsS95.far ?_ NB0_291.out _ | refine IsS95.far ?_ NB0_306.out _) | exact HI0.out), by repeat (first | (with_reducible first | exact HB.out | apply below_alloc | apply pw_below_drewN | apply below_drew1 | refine below_set ?_ (IsS95.ge HI0.out) | refine below_set ?_ GE291.out | refine below_set ?_ GE306.out) | exact HB.out), by repeat (first | (with_reducible first | exact HK.out | apply KeepBut.set_ | apply keep_drewN | apply keep_drew | apply keep_alloc | refine keep_far ?_ GW291.out _ | refine keep_far ?_ GW306.out _) | exact HK.out)⟩
      ·rw [if_neg c54] at H
       exact absurd H (by simp)
     ·rw [if_neg c53] at H
      have c53b0 : (t321 == 1) = false := beq_eq_false_iff_ne.mpr c53
      have c53b1 : (t321 != 1) = true := bne_iff_ne.mpr c53
      by_cases c65 : t321 = 2
      ·rw [if_pos c65] at H
       have c65b0 : (t321 == 2) = true := beq_iff_eq.mpr c65
       have c65b1 : (t321 != 2) = false := bne_eq_false_iff_eq.mpr c65
       clear c65
       obtain ⟨y332, hy332⟩ : ∃ y_ : List Bool, y_ = (([] : List Bool)) := ⟨_, rfl⟩
       replace H : (if x307003_5.length < 5864062014805 then (some (t298, t299, x307002_5, (x307003_5 ++ [y332]), t322)) else (none)) = some (r1, r2, r3, r4, r5) := by first | (rw [hy332]; with_reducible exact H) | (have H2_ := (Option.bind_some _ _).symm.trans H; rw [hy332]; with_reducible exact H2_) | (have H2_ := (Option.bind_some _ _).symm.trans H; with_reducible exact H2_) | with_reducible exact H | (rw [hy332]; exact H) | exact H
       have Ny332 := asd hy332
       clear hy332
       by_cases c66 : x307003_5.length < 5864062014805
       ·rw [if_pos c66] at H
        have LMc66 := asd c66
        clear c66
        obtain ⟨y335, hy335⟩ : ∃ y_ : List (List Bool), y_ = (x307003_5 ++ [y332]) := ⟨_, rfl⟩
        replace H : (some (t298, t299, x307002_5, y335, t322)) = some (r1, r2, r3, r4, r5) := by first | (rw [hy335]; with_reducible exact H) | (have H2_ := (Option.bind_some _ _).symm.trans H; rw [hy335]; with_reducible exact H2_) | (have H2_ := (Option.bind_some _ _).symm.trans H; with_reducible exact H2_) | with_reducible exact H | (rw [hy335]; exact H) | exact H
        have Ny335 := asd hy335
        clear hy335
        simp only [Option.some.injEq, Prod.mk.injEq] at H
        obtain ⟨rfl, rfl, rfl, rfl, rfl⟩ := H
        have n0_ := asd (Kd.Q_mono HO_307002.out (fun _ hk => hk.1))
        have n1_ := asd (Kd.S_mono HO_307003.out (fun _ hk => hk.1))
        clear HO_307002 HO_307003
        have HO_307002 := n0_
        have HO_307003 := n1_
        clear n0_ n1_
        go_wp2_with (first | ((with_reducible refine gate_callee (f := 85) rfl ?_); refine goesL_ (some 38) rfl rfl Try.func85 (by kernel_rfl) rfl #[.pointer (some ⟨g, 0, none⟩), .int .i64 a1] rfl (by (try simp only [List.map_toArray, List.map_cons, List.map_nil]); first | done | rfl | (simp only [List.length_drop, List.length_take]; rfl)) ?_; (with_reducible refine (spec_l20Rd_odd.calls kj5 g s0_0 x1001_5 a1 true t320 w0 _ ?side1 ?side2 A33.out).mono ?_); (case side1 => repeat (first | (with_reducible first | exact HI0.out | apply IsS95.alloc | apply IsS95.drewN | apply IsS95.drew | apply IsS95.set_1 | refine IsS95.far ?_ NB0_291.out _ | refine IsS95.far ?_ NB0_306.out _) | exact HI0.out)); (case side2 => repeat (first | (with_reducible first | exact HB.out | apply below_alloc | apply pw_below_drewN | apply below_drew1 | refine below_set ?_ (IsS95.ge HI0.out) | refine below_set ?_ GE291.out | refine below_set ?_ GE306.out) | exact HB.out)); rintro e w67 ⟨rfl, hi, hb, hk⟩; refine ⟨_, rfl, ?_⟩; have n0_ := asd (Kd.Q_mono (Kd.Q_keep (IsS95.apartQ (show IsS95 w0 _ g s0_0 x1001_5 from by repeat (first | (with_reducible first | exact HI0.out | apply IsS95.alloc | apply IsS95.drewN | apply IsS95.drew | apply IsS95.set_1 | refine IsS95.far ?_ NB0_291.out _ | refine IsS95.far ?_ NB0_306.out _) | exact HI0.out)) (by (with_reducible repeat (first | apply Kd.Q_alloc | apply Kd.Q_drewN | apply Kd.Q_drew)); exact HO_307002.out) (by decide)) hk (fun _ h => h.2)) (fun _ h => h.1)); have n1_ := asd (Kd.S_mono (Kd.S_keep (IsS95.apartS (show IsS95 w0 _ g s0_0 x1001_5 from by repeat (first | (with_reducible first | exact HI0.out | apply IsS95.alloc | apply IsS95.drewN | apply IsS95.drew | apply IsS95.set_1 | refine IsS95.far ?_ NB0_291.out _ | refine IsS95.far ?_ NB0_306.out _) | exact HI0.out)) (by (with_reducible repeat (first | apply Kd.S_alloc | apply Kd.S_drewN | apply Kd.S_drew)); exact HO_307003.out) (by decide)) hk (fun _ h => h.2)) (fun _ h => h.1)); have n2_ := asd (KeepBut.blk hk (g' := gb291) (o := .cells #[.int .i64 0, .int .i64 0, .slice none 0 0, .slice none 0 0] 27 (0, 0)) (by (with_reducible repeat (first | refine blk_drewN ?_ _ | refine blk_drew ?_ | refine blk_alloc ?_ _)); exact BK291.out) NB291_0.out (by simp)); have n3_ := asd (KeepBut.blk hk (g' := gb306) (o := .cells #[.int .i64 t298, .int .i64 t299, u307002, u307003] 27 (0, 0)) (by (with_reducible repeat (first | refine blk_drewN ?_ _ | refine blk_drew ?_ | refine blk_alloc ?_ _)); exact BK306.out) NB306_0.out (by simp)); have n4_ := asd (KeepBut.trans (by repeat (first | (with_reducible first | exact HK.out | apply KeepBut.set_ | apply keep_drewN | apply keep_drew | apply keep_alloc | refine keep_far ?_ GW291.out _ | refine keep_far ?_ GW306.out _) | exact HK.out)) hk (.inl rfl)); have n5_ := asd (hb); have n6_ := asd (hi); clear HO_307002 HO_307003 BK291 BK306 HK HB HI0; have HO_307002 := n0_; have HO_307003 := n1_; have BK291 := n2_; have BK306 := n3_; have HK := n4_; have HB := n5_; have HI0 := n6_; clear n0_ n1_ n2_ n3_ n4_ n5_ n6_) | ((with_reducible refine gate_callee (f := 86) rfl ?_); refine goesL_ (some 40) rfl rfl Try.func86 (by kernel_rfl) rfl #[.pointer (some ⟨g, 0, none⟩), .int .i64 4] rfl (by (try simp only [List.map_toArray, List.map_cons, List.map_nil]); first | done | rfl | (simp only [List.length_drop, List.length_take]; rfl)) ?_; (with_reducible refine (spec_l20Rd_pick.calls kj5 g s0_0 t320 4 t321 t322 w0 _ ?side1 ?side2 A35.out).mono ?_); (case side1 => repeat (first | (with_reducible first | exact HI0.out | apply IsS95.alloc | apply IsS95.drewN | apply IsS95.drew | apply IsS95.set_1 | refine IsS95.far ?_ NB0_291.out _ | refine IsS95.far ?_ NB0_306.out _) | exact HI0.out)); (case side2 => repeat (first | (with_reducible first | exact HB.out | apply below_alloc | apply pw_below_drewN | apply below_drew1 | refine below_set ?_ (IsS95.ge HI0.out) | refine below_set ?_ GE291.out | refine below_set ?_ GE306.out) | exact HB.out)); rintro e w68 ⟨rfl, hi, hb, hk⟩; refine ⟨_, rfl, ?_⟩; have n0_ := asd (Kd.Q_mono (Kd.Q_keep (IsS95.apartQ (show IsS95 w0 _ g s0_0 t320 from by repeat (first | (with_reducible first | exact HI0.out | apply IsS95.alloc | apply IsS95.drewN | apply IsS95.drew | apply IsS95.set_1 | refine IsS95.far ?_ NB0_291.out _ | refine IsS95.far ?_ NB0_306.out _) | exact HI0.out)) (by (with_reducible repeat (first | apply Kd.Q_alloc | apply Kd.Q_drewN | apply Kd.Q_drew)); exact HO_307002.out) (by decide)) hk (fun _ h => h.2)) (fun _ h => h.1)); have n1_ := asd (Kd.S_mono (Kd.S_keep (IsS95.apartS (show IsS95 w0 _ g s0_0 t320 from by repeat (first | (with_reducible first | exact HI0.out | apply IsS95.alloc | apply IsS95.drewN | apply IsS95.drew | apply IsS95.set_1 | refine IsS95.far ?_ NB0_291.out _ | refine IsS95.far ?_ NB0_306.out _) | exact HI0.out)) (by (with_reducible repeat (first | apply Kd.S_alloc | apply Kd.S_drewN | apply Kd.S_drew)); exact HO_307003.out) (by decide)) hk (fun _ h => h.2)) (fun _ h => h.1)); have n2_ := asd (KeepBut.blk hk (g' := gb291) (o := .cells #[.int .i64 0, .int .i64 0, .slice none 0 0, .slice none 0 0] 27 (0, 0)) (by (with_reducible repeat (first | refine blk_drewN ?_ _ | refine blk_drew ?_ | refine blk_alloc ?_ _)); exact BK291.out) NB291_0.out (by simp)); have n3_ := asd (KeepBut.blk hk (g' := gb306) (o := .cells #[.int .i64 t298, .int .i64 t299, u307002, u307003] 27 (0, 0)) (by (with_reducible repeat (first | refine blk_drewN ?_ _ | refine blk_drew ?_ | refine blk_alloc ?_ _)); exact BK306.out) NB306_0.out (by simp)); have n4_ := asd (KeepBut.trans (by repeat (first | (with_reducible first | exact HK.out | apply KeepBut.set_ | apply keep_drewN | apply keep_drew | apply keep_alloc | refine keep_far ?_ GW291.out _ | refine keep_far ?_ GW306.out _) | exact HK.out)) hk (.inl rfl)); have n5_ := asd (hb); have n6_ := asd (hi); clear HO_307002 HO_307003 BK291 BK306 HK HB HI0; have HO_307002 := n0_; have HO_307003 := n1_; have BK291 := n2_; have BK306 := n3_; have HK := n4_; have HB := n5_; have HI0 := n6_; clear n0_ n1_ n2_ n3_ n4_ n5_ n6_; have hnb69 := NB306_291.out; have hnc69 := NB291_306.out; have hnb70 := NB306_0.out; have hnc70 := NB0_306.out; have hcz71_0 : w68.cell? ⟨gb306, 0, none⟩ = some (.int .i64 t298) := (blk_cell BK306.out 0).trans rfl; have hcz71_1 : w68.cell? ⟨gb306, 1, none⟩ = some (.int .i64 t299) := (blk_cell BK306.out 1).trans rfl; have hcz71_2 : w68.cell? ⟨gb306, 2, none⟩ = some (u307002) := (blk_cell BK306.out 2).trans rfl; have hcz71_3 : w68.cell? ⟨gb306, 3, none⟩ = some (u307003) := (blk_cell BK306.out 3).trans rfl; have hfz71_0 := blk_frozen BK306.out 0; have hfz71_1 := blk_frozen BK306.out 1; have hfz71_2 := blk_frozen BK306.out 2; have hfz71_3 := blk_frozen BK306.out 3) | ((with_reducible refine gate_dst (N := 68) rfl ?_); refine Kd.R_lit Kd.bool _ 4 ?hg (N := 68) ?hd (xs := ([] : List Bool)) (inner := []) (ok := fun _ => True) (okp := fun _ => True) ?hr ?hp (fun _ hk => hk) trivial (Below.refl _ _) (Nat.le_refl _) (by simp) ?_; (case hd => rfl); (case hg => rfl); (case hr => first | (go_simp; done) | (go_simp; rfl)); (case hp => exact (Reps.none _ _)); intro v333 w72 ho73 hb hg_ hnew_; clear hg_ hnew_; (first | rw [← Ny332.out] at ho73 | (simp only [Int.reduceToNat] at ho73; rw [← Ny332.out] at ho73)); have n0_ := asd (Kd.Q_elder' (by (with_reducible repeat (first | apply Kd.Q_alloc | apply Kd.Q_drewN | apply Kd.Q_drew)); exact HO_307002.out) (Kd.R_base ho73) hb); have n1_ := asd (Kd.S_elder' (by (with_reducible repeat (first | apply Kd.S_alloc | apply Kd.S_drewN | apply Kd.S_drew)); exact HO_307003.out) (Kd.R_base ho73) hb); have n2_ := asd (Kd.R_lower ho73 (keep_size (w := w) (g := g) (row := none) (by repeat (first | (with_reducible first | exact HK.out | apply KeepBut.set_ | apply keep_drewN | apply keep_drew | apply keep_alloc | refine keep_far ?_ GW291.out _ | refine keep_far ?_ GW306.out _) | exact HK.out)))); have n3_ := asd (blk_below (g := gb291) (o := .cells #[.int .i64 0, .int .i64 0, .slice none 0 0, .slice none 0 0] 27 (0, 0)) (by (with_reducible repeat (first | refine blk_drewN ?_ _ | refine blk_drew ?_ | refine blk_alloc ?_ _)); exact BK291.out) hb); have n4_ := asd (blk_below (g := gb306) (o := .cells #[.int .i64 t298, .int .i64 t299, u307002, u307003] 27 (0, 0)) (by (with_reducible repeat (first | refine blk_drewN ?_ _ | refine blk_drew ?_ | refine blk_alloc ?_ _)); exact BK306.out) hb); have n5_ := asd (IsS95.below (by repeat (first | (with_reducible first | exact HI0.out | apply IsS95.alloc | apply IsS95.drewN | apply IsS95.drew | apply IsS95.set_1 | refine IsS95.far ?_ NB0_291.out _ | refine IsS95.far ?_ NB0_306.out _) | exact HI0.out)) hb); have n6_ := asd (KeepBut.trans (by repeat (first | (with_reducible first | exact HK.out | apply KeepBut.set_ | apply keep_drewN | apply keep_drew | apply keep_alloc | refine keep_far ?_ GW291.out _ | refine keep_far ?_ GW306.out _) | exact HK.out)) (KeepBut.of_below hb g none) (.inl rfl)); have n7_ := asd (below_step (by repeat (first | (with_reducible first | exact HB.out | apply below_alloc | apply pw_below_drewN | apply below_drew1 | refine below_set ?_ (IsS95.ge HI0.out) | refine below_set ?_ GE291.out | refine below_set ?_ GE306.out) | exact HB.out)) hb); clear HO_307002 HO_307003 BK291 BK306 HI0 HK HB; have HO_307002 := n0_; have HO_307003 := n1_; have HO334 := n2_; have BK291 := n3_; have BK306 := n4_; have HI0 := n5_; have HK := n6_; have HB := n7_; clear n0_ n1_ n2_ n3_ n4_ n5_ n6_ n7_ hb ho73; obtain ⟨Ao75, co75, eo75⟩ := Kd.R_slice HO334.out; subst eo75) | ((with_reducible refine gate_builtin (b := .append) (xs := #[.tmp 67, .tmp 69]) rfl ?_); at_builtin; refine Kd.S_append (Kd.slice 4 Kd.bool) w.heap.size rfl (.tmp 67) (.tmp 69) 22 45 (.slice none 0 0) 24 rfl Try.underlying22 info45 rfl (by decide) (by omega) u307003 x307003_5 y332 [.slice Ao75 y332.length co75] (fun k_ => some k_ ≠ (u307002 : Value).ownBlock) (fun k_ => some k_ = (.slice Ao75 y332.length co75 : Value).ownBlock) rfl rfl ?aP (fun k_ hk_ => ((Kd.R_mono (ok' := fun k_ => ((fun k_ => some k_ ≠ (u307002 : Value).ownBlock)) k_ ∧ some k_ ≠ (u307003 : Value).ownBlock) (Kd.R_apart' (Kd.R_apart' (HO334.out) (Kd.Q_typed HO_307002.out) (by decide)) (Kd.S_typed HO_307003.out) (by decide)) (fun k_ hk => ⟨hk.1.2, hk.2⟩))).1 k_ hk_.symm) ?aF ?aO (Below.refl _ _) ?aS ?aL ?_; (case aP => exact Kd.M_row (Kd.R_mono (Kd.R_tight rfl (Kd.R_mono (ok' := fun k_ => ((fun k_ => some k_ ≠ (u307002 : Value).ownBlock)) k_ ∧ some k_ ≠ (u307003 : Value).ownBlock) (Kd.R_apart' (Kd.R_apart' (HO334.out) (Kd.Q_typed HO_307002.out) (by decide)) (Kd.S_typed HO_307003.out) (by decide)) (fun k_ hk => ⟨hk.1.2, hk.2⟩))) (fun _ h_ => h_))); (case aF => exact (fun k_ hk => Kd.fresh' (Kd.Q_lt (by (with_reducible repeat (first | apply Kd.Q_alloc | apply Kd.Q_drewN | apply Kd.Q_drew)); exact HO_307002.out)) k_ hk)); (case aO => exact (by (with_reducible repeat (first | apply Kd.S_alloc | apply Kd.S_drewN | apply Kd.S_drew)); exact Kd.S_mono HO_307003.out (fun k_ hk => ⟨hk.1, fun e_ => hk.2 e_⟩))); (case aS => exact (keep_size (w := w) (g := g) (row := none) (by repeat (first | (with_reducible first | exact HK.out | apply KeepBut.set_ | apply keep_drewN | apply keep_drew | apply keep_alloc | refine keep_far ?_ GW291.out _ | refine keep_far ?_ GW306.out _) | exact HK.out)))); (case aL => have := LMc66.out; omega); intro v336 w74 ho hb hg hat; rw [← Ny335.out] at ho; have n0_ := asd (Kd.Q_after (ok := (fun k_ => some k_ ≠ (.slice Ao75 y332.length co75 : Value).ownBlock)) (by (with_reducible repeat (first | apply Kd.Q_alloc | apply Kd.Q_drewN | apply Kd.Q_drew)); exact Kd.Q_mono HO_307002.out (fun _ hk => ⟨hk.2, hk.1⟩)) hg hat); have n1_ := asd (blk_grown (g := gb291) (o := .cells #[.int .i64 0, .int .i64 0, .slice none 0 0, .slice none 0 0] 27 (0, 0)) (by (with_reducible repeat (first | refine blk_drewN ?_ _ | refine blk_drew ?_ | refine blk_alloc ?_ _)); exact BK291.out) hg (Kd.S_ne HO_307003.out BK291.out (by decide))); have n2_ := asd (blk_grown (g := gb306) (o := .cells #[.int .i64 t298, .int .i64 t299, u307002, u307003] 27 (0, 0)) (by (with_reducible repeat (first | refine blk_drewN ?_ _ | refine blk_drew ?_ | refine blk_alloc ?_ _)); exact BK306.out) hg (Kd.S_ne HO_307003.out BK306.out (by decide))); have n3_ := asd (IsS95.grown (by repeat (first | (with_reducible first | exact HI0.out | apply IsS95.alloc | apply IsS95.drewN | apply IsS95.drew | apply IsS95.set_1 | refine IsS95.far ?_ NB0_291.out _ | refine IsS95.far ?_ NB0_306.out _) | exact HI0.out)) hg (IsS95.own_neS HI0.out HO_307003.out (by decide))); have n4_ := asd (below_weaken (by repeat (first | (with_reducible first | exact HB.out | apply below_alloc | apply pw_below_drewN | apply below_drew1 | refine below_set ?_ (IsS95.ge HI0.out) | refine below_set ?_ GE291.out | refine below_set ?_ GE306.out) | exact HB.out)) HL.out hb); have n5_ := asd (KeepBut.trans (by repeat (first | (with_reducible first | exact HK.out | apply KeepBut.set_ | apply keep_drewN | apply keep_drew | apply keep_alloc | refine keep_far ?_ GW291.out _ | refine keep_far ?_ GW306.out _) | exact HK.out)) (KeepBut.of_grown hg g) (Kd.S_base2 HO_307003.out)); have n6_ := asd (ho); clear HO_307002 BK291 BK306 HI0 HB HK HO_307003 HO334; have HO_307002 := n0_; have BK291 := n1_; have BK306 := n2_; have HI0 := n3_; have HB := n4_; have HK := n5_; have HO337 := n6_; clear n0_ n1_ n2_ n3_ n4_ n5_ n6_ ho hb hg hat; obtain ⟨Ao76, co76, eo76⟩ := Kd.S_slice HO337.out; subst eo76; have hcz77_0 : w74.cell? ⟨gb306, 0, none⟩ = some (.int .i64 t298) := (blk_cell BK306.out 0).trans rfl; have hcz77_1 : w74.cell? ⟨gb306, 1, none⟩ = some (.int .i64 t299) := (blk_cell BK306.out 1).trans rfl; have hcz77_2 : w74.cell? ⟨gb306, 2, none⟩ = some (u307002) := (blk_cell BK306.out 2).trans rfl; have hcz77_3 : w74.cell? ⟨gb306, 3, none⟩ = some (u307003) := (blk_cell BK306.out 3).trans rfl; have hfz77_0 := blk_frozen BK306.out 0; have hfz77_1 := blk_frozen BK306.out 1; have hfz77_2 := blk_frozen BK306.out 2; have hfz77_3 := blk_frozen BK306.out 3; have hnb78 := NB291_0.out; have hnc78 := NB0_291.out; have hcz79_0 : w74.cell? ⟨gb291, 0, none⟩ = some (.int .i64 0) := (blk_cell BK291.out 0).trans rfl; have hcz79_1 : w74.cell? ⟨gb291, 1, none⟩ = some (.int .i64 0) := (blk_cell BK291.out 1).trans rfl; have hcz79_2 : w74.cell? ⟨gb291, 2, none⟩ = some (.slice none 0 0) := (blk_cell BK291.out 2).trans rfl; have hcz79_3 : w74.cell? ⟨gb291, 3, none⟩ = some (.slice none 0 0) := (blk_cell BK291.out 3).trans rfl; have hfz79_0 := blk_frozen BK291.out 0; have hfz79_1 := blk_frozen BK291.out 1; have hfz79_2 := blk_frozen BK291.out 2; have hfz79_3 := blk_frozen BK291.out 3; obtain ⟨Ao80, co80, eo80, _⟩ := Kd.Q_slice HO_307002.out; subst eo80))
        refine bodyPost_ret (results_cell_row rfl _ _ gb291 27 #[.int .i64 t298, .int .i64 t299, .slice Ao80 x307002_5.length co80, .slice Ao76 y335.length co76] (0, 0) _ rfl (by (with_reducible repeat (first | refine blk_drewN ?_ _ | refine blk_drew ?_ | refine blk_alloc ?_ _)); refine blk_put (cs := #[.int .i64 t298, .int .i64 t299, .slice Ao80 x307002_5.length co80, .slice none 0 0]) ?_ 3 _ rfl; (with_reducible repeat (first | refine blk_drewN ?_ _ | refine blk_drew ?_ | refine blk_alloc ?_ _)); refine blk_put (cs := #[.int .i64 t298, .int .i64 t299, .slice none 0 0, .slice none 0 0]) ?_ 2 _ rfl; (with_reducible repeat (first | refine blk_drewN ?_ _ | refine blk_drew ?_ | refine blk_alloc ?_ _)); refine blk_put (cs := #[.int .i64 t298, .int .i64 0, .slice none 0 0, .slice none 0 0]) ?_ 1 _ rfl; (with_reducible repeat (first | refine blk_drewN ?_ _ | refine blk_drew ?_ | refine blk_alloc ?_ _)); refine blk_put (cs := #[.int .i64 0, .int .i64 0, .slice none 0 0, .slice none 0 0]) ?_ 0 _ rfl; (with_reducible repeat (first | refine blk_drewN ?_ _ | refine blk_drew ?_ | refine blk_alloc ?_ _)); refine blk_far ?_ NB291_306.out _; (with_reducible repeat (first | refine blk_drewN ?_ _ | refine blk_drew ?_ | refine blk_alloc ?_ _)); exact BK291.out) Try.underlying27 rfl (by kernel_rfl)) rfl ?_
        exact ⟨_, _, by first | rfl | (simp [errW_none, errW_some] <;> rfl) | (simp [*, errW_none, errW_some] <;> rfl), by (with_reducible repeat (first | apply Kd.Q_alloc | apply Kd.Q_drewN | apply Kd.Q_drew)); exact Kd.Q_mono (Kd.Q_far (p := ⟨gb291, 3, none⟩) (Kd.Q_far (p := ⟨gb291, 2, none⟩) (Kd.Q_far (p := ⟨gb291, 1, none⟩) (Kd.Q_far (p := ⟨gb291, 0, none⟩) (Kd.Q_far (p := ⟨gb306, 3, none⟩) (Kd.Q_types (Kd.Q_types HO_307002.out BK306.out (by decide)) BK291.out (by decide)) (fun _ hk => hk.1.2) (.slice Ao76 y335.length co76)) (fun _ hk => hk.2) (.int .i64 t298)) (fun _ hk => hk.2) (.int .i64 t299)) (fun _ hk => hk.2) (.slice Ao80 x307002_5.length co80)) (fun _ hk => hk.2) (.slice Ao76 y335.length co76)) (fun _ hk => hk.1.1.2), by (with_reducible repeat (first | apply Kd.S_alloc | apply Kd.S_drewN | apply Kd.S_drew)); exact Kd.S_mono (Kd.S_far (p := ⟨gb291, 3, none⟩) (Kd.S_far (p := ⟨gb291, 2, none⟩) (Kd.S_far (p := ⟨gb291, 1, none⟩) (Kd.S_far (p := ⟨gb291, 0, none⟩) (Kd.S_far (p := ⟨gb306, 3, none⟩) (Kd.S_types (Kd.S_types HO337.out BK306.out (by decide)) BK291.out (by decide)) (fun _ hk => hk.1.2) (.slice Ao76 y335.length co76)) (fun _ hk => hk.2) (.int .i64 t298)) (fun _ hk => hk.2) (.int .i64 t299)) (fun _ hk => hk.2) (.slice Ao80 x307002_5.length co80)) (fun _ hk => hk.2) (.slice Ao76 y335.length co76)) (fun _ hk => hk.1.1), by repeat (first | (with_reducible first | exact HI0.out | apply IsS95.alloc | apply IsS95.drewN | apply IsS95.drew | apply IsS95.set_1 | refine IsS95.far ?_ NB0_291.out _ | refine IsS95.far ?_ NB0_306.out _) | exact HI0.out), by repeat (first | (with_reducible first | exact HB.out | apply below_alloc | apply pw_below_drewN | apply below_drew1 | refine below_set ?_ (IsS95.ge HI0.out) | refine below_set ?_ GE291.out | refine below_set ?_ GE306.out) | exact HB.out), by repeat (first | (with_reducible first | exact HK.out | apply KeepBut.set_ | apply keep_drewN | apply keep_drew | apply keep_alloc | refine keep_far ?_ GW291.out _ | refine keep_far ?_ GW306.out _) | exact HK.out)⟩
       ·rw [if_neg c66] at H
        exact absurd H (by simp)
      ·rw [if_neg c65] at H
       have c65b0 : (t321 == 2) = false := beq_eq_false_iff_ne.mpr c65
       have c65b1 : (t321 != 2) = true := bne_iff_ne.mpr c65
       by_cases c81 : 0 < (x307003_5.length : Int)
       ·rw [if_pos c81] at H
        have c81b0 : decide (0 < (x307003_5.length : Int)) = true := decide_eq_true c81
        have c81b1 : decide (0 < x307003_5.length) = true := decide_eq_true (by omega)
        clear c81
        by_cases c82 : (rd_L1 x307003_5 0).length < 140737488355328
        ·rw [if_pos c82] at H
         have LMc82 := asd c82
         clear c82
         obtain ⟨y339, hy339⟩ : ∃ y_ : List Bool, y_ = ((rd_L1 x307003_5 0) ++ [true]) := ⟨_, rfl⟩
         replace H : (some (t298, t299, x307002_5, (x307003_5.set (0 : Int).toNat y339), t322)) = some (r1, r2, r3, r4, r5) := by first | (rw [hy339]; with_reducible exact H) | (have H2_ := (Option.bind_some _ _).symm.trans H; rw [hy339]; with_reducible exact H2_) | (have H2_ := (Option.bind_some _ _).symm.trans H; with_reducible exact H2_) | with_reducible exact H | (rw [hy339]; exact H) | exact H
         have Ny339 := asd hy339
         clear hy339
         obtain ⟨y342, hy342⟩ : ∃ y_ : List (List Bool), y_ = (x307003_5.set (0 : Int).toNat y339) := ⟨_, rfl⟩
         replace H : (some (t298, t299, x307002_5, y342, t322)) = some (r1, r2, r3, r4, r5) := by first | (rw [hy342]; with_reducible exact H) | (have H2_ := (Option.bind_some _ _).symm.trans H; rw [hy342]; with_reducible exact H2_) | (have H2_ := (Option.bind_some _ _).symm.trans H; with_reducible exact H2_) | with_reducible exact H | (rw [hy342]; exact H) | exact H
         have Ny342 := asd hy342
         clear hy342
         simp only [Option.some.injEq, Prod.mk.injEq] at H
         obtain ⟨rfl, rfl, rfl, rfl, rfl⟩ := H
         try go_wp2_with (first | ((with_reducible refine gate_callee (f := 85) rfl ?_); refine goesL_ (some 38) rfl rfl Try.func85 (by kernel_rfl) rfl #[.pointer (some ⟨g, 0, none⟩), .int .i64 a1] rfl (by (try simp only [List.map_toArray, List.map_cons, List.map_nil]); first | done | rfl | (simp only [List.length_drop, List.length_take]; rfl)) ?_; (with_reducible refine (spec_l20Rd_odd.calls kj5 g s0_0 x1001_5 a1 true t320 w0 _ ?side1 ?side2 A33.out).mono ?_); (case side1 => repeat (first | (with_reducible first | exact HI0.out | apply IsS95.alloc | apply IsS95.drewN | apply IsS95.drew | apply IsS95.set_1 | refine IsS95.far ?_ NB0_291.out _ | refine IsS95.far ?_ NB0_306.out _) | exact HI0.out)); (case side2 => repeat (first | (with_reducible first | exact HB.out | apply below_alloc | apply pw_below_drewN | apply below_drew1 | refine below_set ?_ (IsS95.ge HI0.out) | refine below_set ?_ GE291.out | refine below_set ?_ GE306.out) | exact HB.out)); rintro e w84 ⟨rfl, hi, hb, hk⟩; refine ⟨_, rfl, ?_⟩; have n0_ := asd (Kd.Q_mono (Kd.Q_keep (IsS95.apartQ (show IsS95 w0 _ g s0_0 x1001_5 from by repeat (first | (with_reducible first | exact HI0.out | apply IsS95.alloc | apply IsS95.drewN | apply IsS95.drew | apply IsS95.set_1 | refine IsS95.far ?_ NB0_291.out _ | refine IsS95.far ?_ NB0_306.out _) | exact HI0.out)) (by (with_reducible repeat (first | apply Kd.Q_alloc | apply Kd.Q_drewN | apply Kd.Q_drew)); exact HO_307002.out) (by decide)) hk (fun _ h => h.2)) (fun _ h => h.1)); have n1_ := asd (Kd.S_mono (Kd.S_keep (IsS95.apartS (show IsS95 w0 _ g s0_0 x1001_5 from by repeat (first | (with_reducible first | exact HI0.out | apply IsS95.alloc | apply IsS95.drewN | apply IsS95.drew | apply IsS95.set_1 | refine IsS95.far ?_ NB0_291.out _ | refine IsS95.far ?_ NB0_306.out _) | exact HI0.out)) (by (with_reducible repeat (first | apply Kd.S_alloc | apply Kd.S_drewN | apply Kd.S_drew)); exact HO_307003.out) (by decide)) hk (fun _ h => h.2)) (fun _ h => h.1)); have n2_ := asd (KeepBut.blk hk (g' := gb291) (o := .cells #[.int .i64 0, .int .i64 0, .slice none 0 0, .slice none 0 0] 27 (0, 0)) (by (with_reducible repeat (first | refine blk_drewN ?_ _ | refine blk_drew ?_ | refine blk_alloc ?_ _)); exact BK291.out) NB291_0.out (by simp)); have n3_ := asd (KeepBut.blk hk (g' := gb306) (o := .cells #[.int .i64 t298, .int .i64 t299, u307002, u307003] 27 (0, 0)) (by (with_reducible repeat (first | refine blk_drewN ?_ _ | refine blk_drew ?_ | refine blk_alloc ?_ _)); exact BK306.out) NB306_0.out (by simp)); have n4_ := asd (KeepBut.trans (by repeat (first | (with_reducible first | exact HK.out | apply KeepBut.set_ | apply keep_drewN | apply keep_drew | apply keep_alloc | refine keep_far ?_ GW291.out _ | refine keep_far ?_ GW306.out _) | exact HK.out)) hk (.inl rfl)); have n5_ := asd (hb); have n6_ := asd (hi); clear HO_307002 HO_307003 BK291 BK306 HK HB HI0; have HO_307002 := n0_; have HO_307003 := n1_; have BK291 := n2_; have BK306 := n3_; have HK := n4_; have HB := n5_; have HI0 := n6_; clear n0_ n1_ n2_ n3_ n4_ n5_ n6_) | ((with_reducible refine gate_callee (f := 86) rfl ?_); refine goesL_ (some 40) rfl rfl Try.func86 (by kernel_rfl) rfl #[.pointer (some ⟨g, 0, none⟩), .int .i64 4] rfl (by (try simp only [List.map_toArray, List.map_cons, List.map_nil]); first | done | rfl | (simp only [List.length_drop, List.length_take]; rfl)) ?_; (with_reducible refine (spec_l20Rd_pick.calls kj5 g s0_0 t320 4 t321 t322 w0 _ ?side1 ?side2 A35.out).mono ?_); (case side1 => repeat (first | (with_reducible first | exact HI0.out | apply IsS95.alloc | apply IsS95.drewN | apply IsS95.drew | apply IsS95.set_1 | refine IsS95.far ?_ NB0_291.out _ | refine IsS95.far ?_ NB0_306.out _) | exact HI0.out)); (case side2 => repeat (first | (with_reducible first | exact HB.out | apply below_alloc | apply pw_below_drewN | apply below_drew1 | refine below_set ?_ (IsS95.ge HI0.out) | refine below_set ?_ GE291.out | refine below_set ?_ GE306.out) | exact HB.out)); rintro e w85 ⟨rfl, hi, hb, hk⟩; refine ⟨_, rfl, ?_⟩; have n0_ := asd (Kd.Q_mono (Kd.Q_keep (IsS95.apartQ (show IsS95 w0 _ g s0_0 t320 from by repeat (first | (with_reducible first | exact HI0.out | apply IsS95.alloc | apply IsS95.drewN | apply IsS95.drew | apply IsS95.set_1 | refine IsS95.far ?_ NB0_291.out _ | refine IsS95.far ?_ NB0_306.out _) | exact HI0.out)) (by (with_reducible repeat (first | apply Kd.Q_alloc | apply Kd.Q_drewN | apply Kd.Q_drew)); exact HO_307002.out) (by decide)) hk (fun _ h => h.2)) (fun _ h => h.1)); have n1_ := asd (Kd.S_mono (Kd.S_keep (IsS95.apartS (show IsS95 w0 _ g s0_0 t320 from by repeat (first | (with_reducible first | exact HI0.out | apply IsS95.alloc | apply IsS95.drewN | apply IsS95.drew | apply IsS95.set_1 | refine IsS95.far ?_ NB0_291.out _ | refine IsS95.far ?_ NB0_306.out _) | exact HI0.out)) (by (with_reducible repeat (first | apply Kd.S_alloc | apply Kd.S_drewN | apply Kd.S_drew)); exact HO_307003.out) (by decide)) hk (fun _ h => h.2)) (fun _ h => h.1)); have n2_ := asd (KeepBut.blk hk (g' := gb291) (o := .cells #[.int .i64 0, .int .i64 0, .slice none 0 0, .slice none 0 0] 27 (0, 0)) (by (with_reducible repeat (first | refine blk_drewN ?_ _ | refine blk_drew ?_ | refine blk_alloc ?_ _)); exact BK291.out) NB291_0.out (by simp)); have n3_ := asd (KeepBut.blk hk (g' := gb306) (o := .cells #[.int .i64 t298, .int .i64 t299, u307002, u307003] 27 (0, 0)) (by (with_reducible repeat (first | refine blk_drewN ?_ _ | refine blk_drew ?_ | refine blk_alloc ?_ _)); exact BK306.out) NB306_0.out (by simp)); have n4_ := asd (KeepBut.trans (by repeat (first | (with_reducible first | exact HK.out | apply KeepBut.set_ | apply keep_drewN | apply keep_drew | apply keep_alloc | refine keep_far ?_ GW291.out _ | refine keep_far ?_ GW306.out _) | exact HK.out)) hk (.inl rfl)); have n5_ := asd (hb); have n6_ := asd (hi); clear HO_307002 HO_307003 BK291 BK306 HK HB HI0; have HO_307002 := n0_; have HO_307003 := n1_; have BK291 := n2_; have BK306 := n3_; have HK := n4_; have HB := n5_; have HI0 := n6_; clear n0_ n1_ n2_ n3_ n4_ n5_ n6_))
         have n0_ := asd (Kd.Q_drew HO_307002.out)
         have n1_ := asd (Kd.S_drew HO_307003.out)
         have n2_ := asd (blk_drew BK291.out)
         have n3_ := asd (blk_drew BK306.out)
         have n4_ := asd (IsS95.drew HI0.out)
         have n5_ := asd (keep_drew HK.out)
         have n6_ := asd (below_drew1 HB.out)
         clear HO_307002 HO_307003 BK291 BK306 HI0 HK HB
         have HO_307002 := n0_
         have HO_307003 := n1_
         have BK291 := n2_
         have BK306 := n3_
         have HI0 := n4_
         have HK := n5_
         have HB := n6_
         clear n0_ n1_ n2_ n3_ n4_ n5_ n6_
         obtain ⟨Ao87, co87, eo87⟩ := Kd.S_slice HO_307003.out
         (first | subst eo87 | (injection eo87 with f1_ f2_ f3_; have f4_ := f1_.symm; have f5_ := f3_.symm; clear f1_ f2_ f3_; subst f4_; subst f5_))
         have p338 : 0 ≤ (0 : Int) := (by omega)
         have q338 : 0 < (x307003_5.length : Int) := of_decide_eq_true (by first | (with_reducible assumption) | assumption)
         obtain ⟨ad338, A338_0, c338_0, e338, hx338_0, hl338_0, hi338_0⟩ := at_L1 (Kd.S_reads' HO_307003.out).2.2 0 p338 q338
         cases e338
         obtain ⟨ce338, hce338, hMe338, hcc338⟩ := Kd.S_get HO_307003.out [] 0 p338 (by first | exact q338 | exact of_decide_eq_true (by first | (with_reducible assumption) | assumption) | (have e_ := (Kd.S_reads' HO_307003.out).1; omega))
         obtain ⟨ve338_0, rfl, ge338_0⟩ := hMe338
         have hv338_0 := hcc338 0 _ rfl
         rw [Nat.add_zero, show ((Kd.slice 4 Kd.bool)).sz = 1 from rfl, Nat.mul_one] at hv338_0
         replace hv338_0 := Option.some.inj (hv338_0.symm.trans hx338_0)
         rw [hv338_0] at ge338_0
         have HL338_0 := asd (show Kd.R Kd.bool 4 _ _ _ _ (rd_L1 x307003_5 0) from ge338_0)
         clear hv338_0 ge338_0
         have HX338_0 := asd hx338_0
         clear hcc338 hce338
         have qi338 : (0 < x307003_5.length) = True := eq_true (by omega)
         (try rw [show ((0 : Int)).toNat = 0 from rfl] at hx338_0)
         (try rw [Addr.add_zero'] at hx338_0)
         have HR338_0 := asd hi338_0
         have HC338_0 := asd hl338_0
         clear hi338_0 hl338_0
         replace p338 := eq_true p338
         replace q338 := eq_true q338
         obtain ⟨go88, co88, eo88, gb88, gl88, cl88, HG88⟩ := Kd.S_form HO_307003.out (by have h_ : (0 : Int) < ((x307003_5.length : Int) : Int) := of_decide_eq_true (by first | (with_reducible assumption) | assumption); have h2_ : 0 ≤ (0 : Int) := (by omega); omega)
         (first | cases eo88 | (injection eo88 with ea_ en_ ec_; (first | subst ea_ | (injection ea_ with ea_; subst ea_)); subst ec_; clear en_))
         have GB88 := asd gb88
         have GG88 := asd HG88
         clear gb88 gl88 HG88
         (first | simp only [add_plain] at hx338_0 | skip)
         obtain ⟨oki88, ce88, hcl88, hM88, hcc88, _, _, hH88⟩ := Kd.S_elem HO_307003.out [] (0 : Int) (by omega) (by have h_ : (0 : Int) < ((x307003_5.length : Int) : Int) := of_decide_eq_true (by first | (with_reducible assumption) | assumption); first | exact h_ | (have e_ := (Kd.S_reads' HO_307003.out).1; omega) | simpa using h_)
         obtain ⟨ve88_0, rfl, ge88_0⟩ := hM88
         have hv88 := hcc88 0 _ rfl
         have hX88 := HX338_0.out
         (try simp only [add_plain] at hX88)
         (try simp only [Nat.add_zero] at hv88)
         (try rw [show ((Kd.slice 4 Kd.bool)).sz = 1 from rfl, Nat.mul_one] at hv88)
         replace hv88 := Option.some.inj (hv88.symm.trans hX88)
         subst hv88
         clear hX88 hcc88 hcl88
         have UU88 := asd (show Kd.R Kd.bool 4 _ w.heap.size oki88 (.slice A338_0 (rd_L1 x307003_5 0).length c338_0) (rd_L1 x307003_5 0) from ge88_0)
         have HH88 := asd hH88
         have HN88 := asd (Kd.S_reads' HO_307003.out).1
         clear hH88 ge88_0
         refine start_ (n := 10) (S := fun w' => w'.cell? ⟨gb306, 0, none⟩ = some (.int .i64 t298) ∧ w'.cell? ⟨gb306, 1, none⟩ = some (.int .i64 t299) ∧ w'.cell? ⟨gb306, 2, none⟩ = some (u307002) ∧ w'.cell? ⟨gb306, 3, none⟩ = some (.slice (some ⟨go88, 0, none⟩) x307003_5.length co87) ∧ w'.cell? ⟨go88, 0, none⟩ = some (.slice A338_0 (rd_L1 x307003_5 0).length c338_0)) (ds := [9]) #[false, false, false, false, false, false, false, false, false, false] (by kernel_rfl) rfl rfl ⟨(blk_cell BK306.out 0).trans rfl, (blk_cell BK306.out 1).trans rfl, (blk_cell BK306.out 2).trans rfl, (blk_cell BK306.out 3).trans rfl, hx338_0⟩ (fun hHeld => ?_); refine with_tabW spec_l20Loop.tab7 spec_l20Loop.bits7 (fun HT_ HW_ => ?_)
         generalize w85.drew = w86 at HO_307002 HO_307003 BK291 BK306 HI0 HK HB GG88 HH88 HL338_0 HR338_0 HX338_0 UU88 hx338_0 hHeld ⊢
         refine pure_ (i := 0) (N := some 41) (v := ?_) (a' := ?_) #[true, false, false, false, false, false, false, false, false, false] rfl rfl (any_of HT_.out (by kernel_rfl)) (fun _ _ _ h => h) (Or.inl ⟨by rfl, ?_⟩) ?_ ?_
         rotate_left
         ·intro w'
          go_simp
          with_reducible rfl
         rotate_left
         ·simp only [Act.put, List.setIfInBounds_toArray, List.set_cons_zero, List.set_cons_succ, i64_w, i32_w]
          rfl
         refine pure_ (i := 2) (N := some 43) (v := ?_) (a' := ?_) #[true, false, true, false, false, false, false, false, false, false] rfl rfl (any_of HT_.out (by kernel_rfl)) (fun _ _ _ h => h) (Or.inl ⟨by rfl, ?_⟩) ?_ ?_
         rotate_left
         ·intro w'
          go_simp
          with_reducible rfl
         rotate_left
         ·simp only [Act.put, List.setIfInBounds_toArray, List.set_cons_zero, List.set_cons_succ, i64_w, i32_w]
          rfl
         refine take_ (i := 1) (N := some 42) (v := ?_) (a' := ?_) #[true, true, true, false, false, false, false, false, false, false] rfl rfl (take_ofW HT_.out HW_.out (by kernel_rfl)) (fun _ _ _ h => h) (Or.inl ⟨by rfl, ?_⟩) hHeld ?_ ?_
         rotate_left
         ·rintro w' ⟨s0, s1, s2, s3, s4⟩
          go_simp
          with_reducible rfl
         rotate_left
         ·simp only [Act.put, List.setIfInBounds_toArray, List.set_cons_zero, List.set_cons_succ, i64_w, i32_w]
          rfl
         refine take_ (i := 3) (N := some 44) (v := ?_) (a' := ?_) #[true, true, true, true, false, false, false, false, false, false] rfl rfl (take_ofW HT_.out HW_.out (by kernel_rfl)) (fun _ _ _ h => h) (Or.inl ⟨by rfl, ?_⟩) hHeld ?_ ?_
         rotate_left
         ·rintro w' ⟨s0, s1, s2, s3, s4⟩
          go_simp
          with_reducible rfl
         rotate_left
         ·simp only [Act.put, List.setIfInBounds_toArray, List.set_cons_zero, List.set_cons_succ, i64_w, i32_w]
          rfl
         refine pure_ (i := 4) (N := some 45) (v := ?_) (a' := ?_) #[true, true, true, true, true, false, false, false, false, false] rfl rfl (any_of HT_.out (by kernel_rfl)) (fun _ _ _ h => h) (Or.inl ⟨by rfl, ?_⟩) ?_ ?_
         rotate_left
         ·intro w'
          go_simp
          with_reducible rfl
         rotate_left
         ·simp only [Act.put, List.setIfInBounds_toArray, List.set_cons_zero, List.set_cons_succ, i64_w, i32_w]
          rfl
         refine take_ (i := 5) (N := some 46) (v := ?_) (a' := ?_) #[true, true, true, true, true, true, false, false, false, false] rfl rfl (take_ofW HT_.out HW_.out (by kernel_rfl)) (fun _ _ _ h => h) (Or.inl ⟨by rfl, ?_⟩) hHeld ?_ ?_
         rotate_left
         ·rintro w' ⟨s0, s1, s2, s3, s4⟩
          go_simp
          with_reducible rfl
         rotate_left
         ·simp only [Act.put, List.setIfInBounds_toArray, List.set_cons_zero, List.set_cons_succ, i64_w, i32_w]
          rfl
         refine one_ (i := 6) (N := some 47) #[true, true, true, true, true, true, true, false, false, false] rfl rfl (one_of HT_.out (by kernel_rfl)) (by decide) (fun K hK => ?_)
         refine value_ (w1 := ?_) (v := ?_) (by rfl) rfl ?_ ?_
         rotate_left 2
         ·go_simp
          constructor
          ·rfl
          ·rfl
         refine hK.out _ _ ⟨(blk_cell (blk_alloc BK306.out _) 0).trans rfl, (blk_cell (blk_alloc BK306.out _) 1).trans rfl, (blk_cell (blk_alloc BK306.out _) 2).trans rfl, (blk_cell (blk_alloc BK306.out _) 3).trans rfl, (World.cell?_alloc_lt _ _ _ (World.block_lt_of_cell? _ _ (hHeld.2.2.2.2))).trans (hHeld.2.2.2.2)⟩ (fun hHeld => ?_)
         clear hK K
         refine norm_ (a' := ?_) ?_ ?_
         rotate_left
         ·show Act.put _ (some 47) _ = _
          simp only [Act.put, List.setIfInBounds_toArray, List.set_cons_zero, List.set_cons_succ, i64_w, i32_w]
          rfl
         refine one_ (i := 7) (N := some 48) #[true, true, true, true, true, true, true, true, false, false] rfl rfl (one_of HT_.out (by kernel_rfl)) (by decide) (fun K hK => ?_)
         have HBS_ := asd (Nat.le_of_lt (Nat.lt_of_le_of_lt ((Kd.S_R HO_307003.out).1 _ rfl).2 (Kd.S_lt HO_307003.out _ rfl)))
         refine Kd.R_append_step Kd.bool w.heap.size (by rfl) (.tmp 46) (.tmp 47) 45 4 (.bool false) 1 rfl Try.underlying45 info4 rfl (by decide) (by omega) (.slice A338_0 (rd_L1 x307003_5 0).length c338_0) (rd_L1 x307003_5 0) true [.bool true] (fun k_ => oki88 k_ ∨ ((fun k_ => some k_ ≠ (u307002 : Value).ownBlock ∧ B_ ≤ k_)) k_ ∧ w86.heap.size ≤ k_) (fun _ => False) rfl rfl ?aP (fun _ hk => hk.elim) ?aF ?aO (Below.refl _ _) ?aS ?aL ?_
         (case aP => exact rfl)
         (case aF => exact (fun k_ hk => .inr ⟨⟨Kd.fresh' (Kd.Q_lt (by (with_reducible repeat (first | apply Kd.Q_alloc | apply Kd.Q_drewN | apply Kd.Q_drew)); exact HO_307002.out)) k_ hk, Nat.le_trans HBS_.out hk⟩, hk⟩))
         (case aO => exact (by (with_reducible repeat (first | apply Kd.R_alloc | apply Kd.R_drewN | apply Kd.R_drew)); exact Kd.R_mono UU88.out (fun _ hk => .inl hk)))
         (case aS => exact (keep_size (w := w) (g := g) (row := none) (by repeat (first | (with_reducible first | exact HK.out | apply KeepBut.set_ | apply keep_drewN | apply keep_drew | apply keep_alloc | refine keep_far ?_ GW291.out _ | refine keep_far ?_ GW306.out _) | exact HK.out))))
         (case aL => have := LMc82.out; omega)
         intro v340 w89 ho hb hg hat
         (first | have HS4_ := cell_grown hg (hHeld.2.2.2.2) (by first | (rw [add_block]; exact (fun e_ => ((HL338_0.out.1 _ e_.symm).2) rfl)) | (show some (Addr.add _ _).block ≠ _; rw [add_block]; exact (fun e_ => ((HL338_0.out.1 _ e_.symm).2) rfl)) | exact (fun e_ => ((HL338_0.out.1 _ e_.symm).2) rfl)) | have HS4_ := cell_grown hg (cell_unalloc (hHeld.2.2.2.2) (by first | (rw [add_block]; exact Kd.S_lt HO_307003.out _ rfl) | (show (Addr.add _ _).block < _; rw [add_block]; exact Kd.S_lt HO_307003.out _ rfl) | exact Kd.S_lt HO_307003.out _ rfl)) (by first | (rw [add_block]; exact (fun e_ => ((HL338_0.out.1 _ e_.symm).2) rfl)) | (show some (Addr.add _ _).block ≠ _; rw [add_block]; exact (fun e_ => ((HL338_0.out.1 _ e_.symm).2) rfl)) | exact (fun e_ => ((HL338_0.out.1 _ e_.symm).2) rfl)))
         rw [← Ny339.out] at ho
         have n0_ := asd (Kd.Q_grown HO_307002.out hg (fun k_ hk_ e_ => Nat.not_le.2 hk_.2 (HL338_0.out.1 k_ e_.symm).1.2))
         have n1_ := asd (blk_grown (g := gb291) (o := .cells #[.int .i64 0, .int .i64 0, .slice none 0 0, .slice none 0 0] 27 (0, 0)) (by (with_reducible repeat (first | refine blk_drewN ?_ _ | refine blk_drew ?_ | refine blk_alloc ?_ _)); exact BK291.out) hg (Kd.R_ne HL338_0.out BK291.out (by decide)))
         have n2_ := asd (blk_grown (g := gb306) (o := .cells #[.int .i64 t298, .int .i64 t299, u307002, .slice (some ⟨go88, 0, none⟩) x307003_5.length co87] 27 (0, 0)) (by (with_reducible repeat (first | refine blk_drewN ?_ _ | refine blk_drew ?_ | refine blk_alloc ?_ _)); exact BK306.out) hg (Kd.R_ne HL338_0.out BK306.out (by decide)))
         have n3_ := asd (IsS95.grown (by repeat (first | (with_reducible first | exact HI0.out | apply IsS95.alloc | apply IsS95.drewN | apply IsS95.drew | apply IsS95.set_1 | refine IsS95.far ?_ NB0_291.out _ | refine IsS95.far ?_ NB0_306.out _) | exact HI0.out)) hg (IsS95.own_ne HI0.out HL338_0.out (by decide)))
         have n4_ := asd (below_weaken (by repeat (first | (with_reducible first | exact HB.out | apply below_alloc | apply pw_below_drewN | apply below_drew1 | refine below_set ?_ (IsS95.ge HI0.out) | refine below_set ?_ GE291.out | refine below_set ?_ GE306.out) | exact HB.out)) HL.out hb)
         have n5_ := asd (KeepBut.trans (by repeat (first | (with_reducible first | exact HK.out | apply KeepBut.set_ | apply keep_drewN | apply keep_drew | apply keep_alloc | refine keep_far ?_ GW291.out _ | refine keep_far ?_ GW306.out _) | exact HK.out)) (KeepBut.of_grown hg g) (Kd.R_base2 HL338_0.out))
         have n6_ := asd (Kd.H_grown (Kd.H_widen (by repeat (first | exact HH88.out | refine Kd.H_alloc ?_ _ | refine Kd.H_drewN ?_ _ | refine Kd.H_drew ?_))) hg (fun k_ e_ => .inl (UU88.out.1 k_ e_)))
         have n7_ := asd (ho)
         clear HO_307002 BK291 BK306 HI0 HB HK HH88 HO_307003 UU88 HL338_0
         have HO_307002 := n0_
         have BK291 := n1_
         have BK306 := n2_
         have HI0 := n3_
         have HB := n4_
         have HK := n5_
         have HH88 := n6_
         have HO341 := n7_
         clear n0_ n1_ n2_ n3_ n4_ n5_ n6_ n7_ ho hb hg hat
         have p83 : 0 ≤ (0 : Int) := (by omega)
         have q83 : (0 : Int) < ((x307003_5.length : Int) : Int) := of_decide_eq_true (by first | (with_reducible assumption) | assumption)
         replace p83 := eq_true p83
         replace q83 := eq_true q83
         obtain ⟨Ao92, co92, eo92⟩ := Kd.R_slice HO341.out
         (first | subst eo92 | (injection eo92 with f1_ f2_ f3_; have f4_ := f1_.symm; have f5_ := f3_.symm; clear f1_ f2_ f3_; subst f4_; subst f5_))
         obtain ⟨_, _, hraw90, _, _, hcc90, _⟩ := Kd.H_raw HH88.out (by omega) (by have h_ : (0 : Int) < ((x307003_5.length : Int) : Int) := of_decide_eq_true (by first | (with_reducible assumption) | assumption); first | exact h_ | (have e_ := (HN88.out); omega) | simpa using h_)
         obtain ⟨_, hfr90⟩ := Kd.H_at HH88.out (by omega) (by have h_ : (0 : Int) < ((x307003_5.length : Int) : Int) := of_decide_eq_true (by first | (with_reducible assumption) | assumption); first | exact h_ | (have e_ := (HN88.out); omega) | simpa using h_)
         have hx90_0 := hcc90 0 _ rfl
         have hf90_0 := hfr90 0
         (try simp only [Nat.add_zero] at hx90_0 hf90_0)
         (try rw [show ((Kd.slice 4 Kd.bool)).sz = 1 from rfl, Nat.mul_one] at hx90_0)
         (try rw [show ((Kd.slice 4 Kd.bool)).sz = 1 from rfl, Nat.mul_one] at hf90_0)
         (try rw [show ((0 : Int)).toNat = 0 from rfl] at hx90_0)
         (try simp only [Nat.reduceMul, Nat.zero_mul, Nat.zero_add, Nat.reduceAdd] at hx90_0)
         (try rw [show ((0 : Int)).toNat = 0 from rfl] at hf90_0)
         (try simp only [Nat.reduceMul, Nat.zero_mul, Nat.zero_add, Nat.reduceAdd] at hf90_0)
         have HP90 := Kd.S_seg0 HH88.out (by omega) (by have h_ : (0 : Int) < ((x307003_5.length : Int) : Int) := of_decide_eq_true (by first | (with_reducible assumption) | assumption); first | exact h_ | (have e_ := (HN88.out); omega) | simpa using h_) (seg := [.slice Ao92 y339.length co92]) (j := 0) (show 1 ≤ 1 from by decide) (x' := y339) (Kd.M_row HO341.out) (fun _ hk => hk)
         (try simp only [show ((Kd.slice 4 Kd.bool)).sz = 1 from rfl, Nat.mul_one, Nat.add_zero] at HP90)
         clear hcc90 hfr90
         have HN0_go88 := asd (show g ≠ go88 from by have h_ := IsS95.own_ne HI0.out hraw90 (by decide); intro e_; exact h_ (by rw [e_]; rfl))
         have HNB291_go88 := asd (show gb291 ≠ go88 from by have h_ := Kd.R_ne hraw90 BK291.out (by decide); intro e_; exact h_ (by rw [e_]; rfl))
         have HNB306_go88 := asd (show gb306 ≠ go88 from by have h_ := Kd.R_ne hraw90 BK306.out (by decide); intro e_; exact h_ (by rw [e_]; rfl))
         have HS90 := HP90.1
         rw [← Ny342.out] at HS90
         have HQ90 := asd HS90
         obtain ⟨_, hgg90⟩ := Kd.R_typed hraw90 go88 rfl
         have GG90_ := asd hgg90
         clear HP90 HS90 hgg90
         refine hK.out _ _ ⟨(blk_cell BK306.out 0).trans rfl, (blk_cell BK306.out 1).trans rfl, (blk_cell BK306.out 2).trans rfl, (blk_cell BK306.out 3).trans rfl, HS4_⟩ (fun hHeld => ?_)
         clear hK K
         refine norm_ (a' := ?_) ?_ ?_
         rotate_left
         ·show Act.put _ (some 48) _ = _
          simp only [Act.put, List.setIfInBounds_toArray, List.set_cons_zero, List.set_cons_succ, i64_w, i32_w]
          rfl
         refine pure_ (i := 8) (N := some 49) (v := ?_) (a' := ?_) #[true, true, true, true, true, true, true, true, true, false] rfl rfl (any_of HT_.out (by kernel_rfl)) (fun _ _ _ h => h) (Or.inl ⟨by rfl, ?_⟩) ?_ ?_
         rotate_left
         ·intro w'
          go_simp
          with_reducible rfl
         rotate_left
         ·simp only [Act.put, List.setIfInBounds_toArray, List.set_cons_zero, List.set_cons_succ, i64_w, i32_w]
          rfl
         refine last_ (i := 9) (N := none) #[true, true, true, true, true, true, true, true, true, true] rfl rfl (one_of HT_.out (by kernel_rfl)) (by decide) (fun K hK => ?_)
         refine skip_ (w1 := ?_) (by rfl) rfl ?_ ?_
         rotate_left
         ·go_simp
          rfl
         refine hK.out _ _ ?_
         clear hK K
         refine done_ (done_of HT_.out (by kernel_rfl)) ?_
         have n0_ : Aside0 (Kd.Q (Kd.slice 4 Kd.bool) 45 (w89.setCell ⟨go88, 0, none⟩ (.slice Ao92 y339.length co92)) w.heap.size (fun k_ => some k_ ≠ (.slice (some ⟨go88, 0, none⟩) x307003_5.length co87 : Value).ownBlock) u307002 x307002_5) := ⟨by (with_reducible repeat (first | apply Kd.Q_alloc | apply Kd.Q_drewN | apply Kd.Q_drew)); exact Kd.Q_mono (Kd.Q_far (p := ⟨go88, 0, none⟩) (Kd.Q_mono HO_307002.out (fun k_ hk => (⟨hk, fun e_ => hk.1 (by rw [e_]; rfl)⟩ : _ ∧ k_ ≠ go88))) (fun _ hk => hk.2) (.slice Ao92 y339.length co92)) (fun _ hk => hk.1.1)⟩
         have n1_ : Aside0 (Kd.S (Kd.slice 4 Kd.bool) 45 (w89.setCell ⟨go88, 0, none⟩ (.slice Ao92 y339.length co92)) w.heap.size (fun k_ => some k_ ≠ (u307002 : Value).ownBlock ∧ B_ ≤ k_) (.slice (some ⟨go88, 0, none⟩) x307003_5.length co87) y342) := ⟨by (with_reducible repeat (first | apply Kd.S_alloc | apply Kd.S_drewN | apply Kd.S_drew)); exact HQ90.out⟩
         have n2_ : Aside0 ((w89.setCell ⟨go88, 0, none⟩ (.slice Ao92 y339.length co92)).heap[gb291]? = some (.cells #[.int .i64 0, .int .i64 0, .slice none 0 0, .slice none 0 0] 27 (0, 0))) := ⟨by (with_reducible repeat (first | refine blk_drewN ?_ _ | refine blk_drew ?_ | refine blk_alloc ?_ _)); refine blk_far ?_ HNB291_go88.out _; (with_reducible repeat (first | refine blk_drewN ?_ _ | refine blk_drew ?_ | refine blk_alloc ?_ _)); exact BK291.out⟩
         have n3_ : Aside0 ((w89.setCell ⟨go88, 0, none⟩ (.slice Ao92 y339.length co92)).heap[gb306]? = some (.cells #[.int .i64 t298, .int .i64 t299, u307002, .slice (some ⟨go88, 0, none⟩) x307003_5.length co87] 27 (0, 0))) := ⟨by (with_reducible repeat (first | refine blk_drewN ?_ _ | refine blk_drew ?_ | refine blk_alloc ?_ _)); refine blk_far ?_ HNB306_go88.out _; (with_reducible repeat (first | refine blk_drewN ?_ _ | refine blk_drew ?_ | refine blk_alloc ?_ _)); exact BK306.out⟩
         have n4_ : Aside0 (IsS95 w0 (w89.setCell ⟨go88, 0, none⟩ (.slice Ao92 y339.length co92)) g s0_0 t322) := ⟨by repeat (first | (with_reducible first | exact HI0.out | apply IsS95.alloc | apply IsS95.drewN | apply IsS95.drew | apply IsS95.set_1 | refine IsS95.far ?_ HN0_go88.out _ | refine IsS95.far ?_ NB0_291.out _ | refine IsS95.far ?_ NB0_306.out _) | exact HI0.out)⟩
         have n5_ : Aside0 (KeepBut w (w89.setCell ⟨go88, 0, none⟩ (.slice Ao92 y339.length co92)) g none) := ⟨by repeat (first | (with_reducible first | exact HK.out | apply KeepBut.set_ | apply keep_drewN | apply keep_drew | apply keep_alloc | refine keep_far ?_ GB88.out _ | refine keep_far ?_ GW291.out _ | refine keep_far ?_ GW306.out _) | exact HK.out)⟩
         have n6_ : Aside0 (Below w0.heap.size w0 (w89.setCell ⟨go88, 0, none⟩ (.slice Ao92 y339.length co92))) := ⟨by repeat (first | (with_reducible first | exact HB.out | apply below_alloc | apply pw_below_drewN | apply below_drew1 | refine below_set ?_ (Nat.le_trans HL.out GB88.out) | refine below_set ?_ (IsS95.ge HI0.out) | refine below_set ?_ GE291.out | refine below_set ?_ GE306.out) | exact HB.out)⟩
         (try clear HO_307002)
         (try clear HO_307003)
         (try clear BK291)
         (try clear BK306)
         (try clear HI0)
         (try clear HK)
         (try clear HB)
         generalize (w89.setCell ⟨go88, 0, none⟩ (.slice Ao92 y339.length co92)) = w93 at n0_ n1_ n2_ n3_ n4_ n5_ n6_ ⊢
         have HO_307002 := n0_
         have HO_307003 := asd (Kd.S_mono n1_.out (fun _ hk => hk.1))
         have BK291 := n2_
         have BK306 := n3_
         have HI0 := n4_
         have HK := n5_
         have HB := n6_
         clear n0_ n1_ n2_ n3_ n4_ n5_ n6_
         have hnb94 := NB306_291.out
         have hnc94 := NB291_306.out
         have hnb95 := NB306_0.out
         have hnc95 := NB0_306.out
         have hcz96_0 : w93.cell? ⟨gb306, 0, none⟩ = some (.int .i64 t298) := (blk_cell BK306.out 0).trans rfl
         have hcz96_1 : w93.cell? ⟨gb306, 1, none⟩ = some (.int .i64 t299) := (blk_cell BK306.out 1).trans rfl
         have hcz96_2 : w93.cell? ⟨gb306, 2, none⟩ = some (u307002) := (blk_cell BK306.out 2).trans rfl
         have hcz96_3 : w93.cell? ⟨gb306, 3, none⟩ = some (.slice (some ⟨go88, 0, none⟩) x307003_5.length co87) := (blk_cell BK306.out 3).trans rfl
         have hfz96_0 := blk_frozen BK306.out 0
         have hfz96_1 := blk_frozen BK306.out 1
         have hfz96_2 := blk_frozen BK306.out 2
         have hfz96_3 := blk_frozen BK306.out 3
         have hnb97 := NB291_0.out
         have hnc97 := NB0_291.out
         have hcz98_0 : w93.cell? ⟨gb291, 0, none⟩ = some (.int .i64 0) := (blk_cell BK291.out 0).trans rfl
         have hcz98_1 : w93.cell? ⟨gb291, 1, none⟩ = some (.int .i64 0) := (blk_cell BK291.out 1).trans rfl
         have hcz98_2 : w93.cell? ⟨gb291, 2, none⟩ = some (.slice none 0 0) := (blk_cell BK291.out 2).trans rfl
         have hcz98_3 : w93.cell? ⟨gb291, 3, none⟩ = some (.slice none 0 0) := (blk_cell BK291.out 3).trans rfl
         have hfz98_0 := blk_frozen BK291.out 0
         have hfz98_1 := blk_frozen BK291.out 1
         have hfz98_2 := blk_frozen BK291.out 2
         have hfz98_3 := blk_frozen BK291.out 3
         obtain ⟨Ao99, co99, eo99, _⟩ := Kd.Q_slice HO_307002.out
         subst eo99
         try go_wp2
         refine bodyPost_ret (results_cell_row rfl _ _ gb291 27 #[.int .i64 t298, .int .i64 t299, .slice Ao99 x307002_5.length co99, .slice (some ⟨go88, 0, none⟩) x307003_5.length co87] (0, 0) _ rfl (by (with_reducible repeat (first | refine blk_drewN ?_ _ | refine blk_drew ?_ | refine blk_alloc ?_ _)); refine blk_put (cs := #[.int .i64 t298, .int .i64 t299, .slice Ao99 x307002_5.length co99, .slice none 0 0]) ?_ 3 _ rfl; (with_reducible repeat (first | refine blk_drewN ?_ _ | refine blk_drew ?_ | refine blk_alloc ?_ _)); refine blk_put (cs := #[.int .i64 t298, .int .i64 t299, .slice none 0 0, .slice none 0 0]) ?_ 2 _ rfl; (with_reducible repeat (first | refine blk_drewN ?_ _ | refine blk_drew ?_ | refine blk_alloc ?_ _)); refine blk_put (cs := #[.int .i64 t298, .int .i64 0, .slice none 0 0, .slice none 0 0]) ?_ 1 _ rfl; (with_reducible repeat (first | refine blk_drewN ?_ _ | refine blk_drew ?_ | refine blk_alloc ?_ _)); refine blk_put (cs := #[.int .i64 0, .int .i64 0, .slice none 0 0, .slice none 0 0]) ?_ 0 _ rfl; (with_reducible repeat (first | refine blk_drewN ?_ _ | refine blk_drew ?_ | refine blk_alloc ?_ _)); exact BK291.out) Try.underlying27 rfl (by kernel_rfl)) rfl ?_
         exact ⟨_, _, by first | rfl | (simp [errW_none, errW_some] <;> rfl) | (simp [*, errW_none, errW_some] <;> rfl), by (with_reducible repeat (first | apply Kd.Q_alloc | apply Kd.Q_drewN | apply Kd.Q_drew)); exact Kd.Q_mono (Kd.Q_far (p := ⟨gb291, 3, none⟩) (Kd.Q_far (p := ⟨gb291, 2, none⟩) (Kd.Q_far (p := ⟨gb291, 1, none⟩) (Kd.Q_far (p := ⟨gb291, 0, none⟩) (Kd.Q_types HO_307002.out BK291.out (by decide)) (fun _ hk => hk.2) (.int .i64 t298)) (fun _ hk => hk.2) (.int .i64 t299)) (fun _ hk => hk.2) (.slice Ao99 x307002_5.length co99)) (fun _ hk => hk.2) (.slice (some ⟨go88, 0, none⟩) x307003_5.length co87)) (fun _ hk => hk.1), by (with_reducible repeat (first | apply Kd.S_alloc | apply Kd.S_drewN | apply Kd.S_drew)); exact Kd.S_mono (Kd.S_far (p := ⟨gb291, 3, none⟩) (Kd.S_far (p := ⟨gb291, 2, none⟩) (Kd.S_far (p := ⟨gb291, 1, none⟩) (Kd.S_far (p := ⟨gb291, 0, none⟩) (Kd.S_types HO_307003.out BK291.out (by decide)) (fun _ hk => hk.2) (.int .i64 t298)) (fun _ hk => hk.2) (.int .i64 t299)) (fun _ hk => hk.2) (.slice Ao99 x307002_5.length co99)) (fun _ hk => hk.2) (.slice (some ⟨go88, 0, none⟩) x307003_5.length co87)) (fun _ hk => hk.1), by repeat (first | (with_reducible first | exact HI0.out | apply IsS95.alloc | apply IsS95.drewN | apply IsS95.drew | apply IsS95.set_1 | refine IsS95.far ?_ NB0_291.out _ | refine IsS95.far ?_ NB0_306.out _) | exact HI0.out), by repeat (first | (with_reducible first | exact HB.out | apply below_alloc | apply pw_below_drewN | apply below_drew1 | refine below_set ?_ (IsS95.ge HI0.out) | refine below_set ?_ GE291.out | refine below_set ?_ GE306.out) | exact HB.out), by repeat (first | (with_reducible first | exact HK.out | apply KeepBut.set_ | apply keep_drewN | apply keep_drew | apply keep_alloc | refine keep_far ?_ GW291.out _ | refine keep_far ?_ GW306.out _) | exact HK.out)⟩
        ·rw [if_neg c82] at H
         exact absurd H (by simp)
       ·rw [if_neg c81] at H
        exact absurd H (by simp)
   ·replace c34 := Bool.eq_false_iff.mpr c34
    subst c34
    have H1 : (some (t298, t299, x307002_5, x307003_5, t320)) = some (r1, r2, r3, r4, r5) := by rw [if_neg (show ¬ (false = true) by decide)] at H; exact H
    clear H
    have H := H1
    clear H1
    simp only [Option.some.injEq, Prod.mk.injEq] at H
    obtain ⟨rfl, rfl, rfl, rfl, rfl⟩ := H
    have n0_ := asd (Kd.Q_mono HO_307002.out (fun _ hk => hk.1))
    have n1_ := asd (Kd.S_mono HO_307003.out (fun _ hk => hk.1))
    clear HO_307002 HO_307003
    have HO_307002 := n0_
    have HO_307003 := n1_
    clear n0_ n1_
    go_wp2_with (first | ((with_reducible refine gate_callee (f := 85) rfl ?_); refine goesL_ (some 38) rfl rfl Try.func85 (by kernel_rfl) rfl #[.pointer (some ⟨g, 0, none⟩), .int .i64 a1] rfl (by (try simp only [List.map_toArray, List.map_cons, List.map_nil]); first | done | rfl | (simp only [List.length_drop, List.length_take]; rfl)) ?_; (with_reducible refine (spec_l20Rd_odd.calls kj5 g s0_0 x1001_5 a1 false t320 w0 _ ?side1 ?side2 A33.out).mono ?_); (case side1 => repeat (first | (with_reducible first | exact HI0.out | apply IsS95.alloc | apply IsS95.drewN | apply IsS95.drew | apply IsS95.set_1 | refine IsS95.far ?_ NB0_291.out _ | refine IsS95.far ?_ NB0_306.out _) | exact HI0.out)); (case side2 => repeat (first | (with_reducible first | exact HB.out | apply below_alloc | apply pw_below_drewN | apply below_drew1 | refine below_set ?_ (IsS95.ge HI0.out) | refine below_set ?_ GE291.out | refine below_set ?_ GE306.out) | exact HB.out)); rintro e w100 ⟨rfl, hi, hb, hk⟩; refine ⟨_, rfl, ?_⟩; have n0_ := asd (Kd.Q_mono (Kd.Q_keep (IsS95.apartQ (show IsS95 w0 _ g s0_0 x1001_5 from by repeat (first | (with_reducible first | exact HI0.out | apply IsS95.alloc | apply IsS95.drewN | apply IsS95.drew | apply IsS95.set_1 | refine IsS95.far ?_ NB0_291.out _ | refine IsS95.far ?_ NB0_306.out _) | exact HI0.out)) (by (with_reducible repeat (first | apply Kd.Q_alloc | apply Kd.Q_drewN | apply Kd.Q_drew)); exact HO_307002.out) (by decide)) hk (fun _ h => h.2)) (fun _ h => h.1)); have n1_ := asd (Kd.S_mono (Kd.S_keep (IsS95.apartS (show IsS95 w0 _ g s0_0 x1001_5 from by repeat (first | (with_reducible first | exact HI0.out | apply IsS95.alloc | apply IsS95.drewN | apply IsS95.drew | apply IsS95.set_1 | refine IsS95.far ?_ NB0_291.out _ | refine IsS95.far ?_ NB0_306.out _) | exact HI0.out)) (by (with_reducible repeat (first | apply Kd.S_alloc | apply Kd.S_drewN | apply Kd.S_drew)); exact HO_307003.out) (by decide)) hk (fun _ h => h.2)) (fun _ h => h.1)); have n2_ := asd (KeepBut.blk hk (g' := gb291) (o := .cells #[.int .i64 0, .int .i64 0, .slice none 0 0, .slice none 0 0] 27 (0, 0)) (by (with_reducible repeat (first | refine blk_drewN ?_ _ | refine blk_drew ?_ | refine blk_alloc ?_ _)); exact BK291.out) NB291_0.out (by simp)); have n3_ := asd (KeepBut.blk hk (g' := gb306) (o := .cells #[.int .i64 t298, .int .i64 t299, u307002, u307003] 27 (0, 0)) (by (with_reducible repeat (first | refine blk_drewN ?_ _ | refine blk_drew ?_ | refine blk_alloc ?_ _)); exact BK306.out) NB306_0.out (by simp)); have n4_ := asd (KeepBut.trans (by repeat (first | (with_reducible first | exact HK.out | apply KeepBut.set_ | apply keep_drewN | apply keep_drew | apply keep_alloc | refine keep_far ?_ GW291.out _ | refine keep_far ?_ GW306.out _) | exact HK.out)) hk (.inl rfl)); have n5_ := asd (hb); have n6_ := asd (hi); clear HO_307002 HO_307003 BK291 BK306 HK HB HI0; have HO_307002 := n0_; have HO_307003 := n1_; have BK291 := n2_; have BK306 := n3_; have HK := n4_; have HB := n5_; have HI0 := n6_; clear n0_ n1_ n2_ n3_ n4_ n5_ n6_; have hnb101 := NB306_291.out; have hnc101 := NB291_306.out; have hnb102 := NB306_0.out; have hnc102 := NB0_306.out; have hcz103_0 : w100.cell? ⟨gb306, 0, none⟩ = some (.int .i64 t298) := (blk_cell BK306.out 0).trans rfl; have hcz103_1 : w100.cell? ⟨gb306, 1, none⟩ = some (.int .i64 t299) := (blk_cell BK306.out 1).trans rfl; have hcz103_2 : w100.cell? ⟨gb306, 2, none⟩ = some (u307002) := (blk_cell BK306.out 2).trans rfl; have hcz103_3 : w100.cell? ⟨gb306, 3, none⟩ = some (u307003) := (blk_cell BK306.out 3).trans rfl; have hfz103_0 := blk_frozen BK306.out 0; have hfz103_1 := blk_frozen BK306.out 1; have hfz103_2 := blk_frozen BK306.out 2; have hfz103_3 := blk_frozen BK306.out 3; have hnb104 := NB291_0.out; have hnc104 := NB0_291.out; have hcz105_0 : w100.cell? ⟨gb291, 0, none⟩ = some (.int .i64 0) := (blk_cell BK291.out 0).trans rfl; have hcz105_1 : w100.cell? ⟨gb291, 1, none⟩ = some (.int .i64 0) := (blk_cell BK291.out 1).trans rfl; have hcz105_2 : w100.cell? ⟨gb291, 2, none⟩ = some (.slice none 0 0) := (blk_cell BK291.out 2).trans rfl; have hcz105_3 : w100.cell? ⟨gb291, 3, none⟩ = some (.slice none 0 0) := (blk_cell BK291.out 3).trans rfl; have hfz105_0 := blk_frozen BK291.out 0; have hfz105_1 := blk_frozen BK291.out 1; have hfz105_2 := blk_frozen BK291.out 2; have hfz105_3 := blk_frozen BK291.out 3; obtain ⟨Ao106, co106, eo106, _⟩ := Kd.Q_slice HO_307002.out; subst eo106; obtain ⟨Ao107, co107, eo107⟩ := Kd.S_slice HO_307003.out; subst eo107))
    refine bodyPost_ret (results_cell_row rfl _ _ gb291 27 #[.int .i64 t298, .int .i64 t299, .slice Ao106 x307002_5.length co106, .slice Ao107 x307003_5.length co107] (0, 0) _ rfl (by (with_reducible repeat (first | refine blk_drewN ?_ _ | refine blk_drew ?_ | refine blk_alloc ?_ _)); refine blk_put (cs := #[.int .i64 t298, .int .i64 t299, .slice Ao106 x307002_5.length co106, .slice none 0 0]) ?_ 3 _ rfl; (with_reducible repeat (first | refine blk_drewN ?_ _ | refine blk_drew ?_ | refine blk_alloc ?_ _)); refine blk_put (cs := #[.int .i64 t298, .int .i64 t299, .slice none 0 0, .slice none 0 0]) ?_ 2 _ rfl; (with_reducible repeat (first | refine blk_drewN ?_ _ | refine blk_drew ?_ | refine blk_alloc ?_ _)); refine blk_put (cs := #[.int .i64 t298, .int .i64 0, .slice none 0 0, .slice none 0 0]) ?_ 1 _ rfl; (with_reducible repeat (first | refine blk_drewN ?_ _ | refine blk_drew ?_ | refine blk_alloc ?_ _)); refine blk_put (cs := #[.int .i64 0, .int .i64 0, .slice none 0 0, .slice none 0 0]) ?_ 0 _ rfl; (with_reducible repeat (first | refine blk_drewN ?_ _ | refine blk_drew ?_ | refine blk_alloc ?_ _)); exact BK291.out) Try.underlying27 rfl (by kernel_rfl)) rfl ?_
    exact ⟨_, _, by first | rfl | (simp [errW_none, errW_some] <;> rfl) | (simp [*, errW_none, errW_some] <;> rfl), by (with_reducible repeat (first | apply Kd.Q_alloc | apply Kd.Q_drewN | apply Kd.Q_drew)); exact Kd.Q_mono (Kd.Q_far (p := ⟨gb291, 3, none⟩) (Kd.Q_far (p := ⟨gb291, 2, none⟩) (Kd.Q_far (p := ⟨gb291, 1, none⟩) (Kd.Q_far (p := ⟨gb291, 0, none⟩) (Kd.Q_types HO_307002.out BK291.out (by decide)) (fun _ hk => hk.2) (.int .i64 t298)) (fun _ hk => hk.2) (.int .i64 t299)) (fun _ hk => hk.2) (.slice Ao106 x307002_5.length co106)) (fun _ hk => hk.2) (.slice Ao107 x307003_5.length co107)) (fun _ hk => hk.1), by (with_reducible repeat (first | apply Kd.S_alloc | apply Kd.S_drewN | apply Kd.S_drew)); exact Kd.S_mono (Kd.S_far (p := ⟨gb291, 3, none⟩) (Kd.S_far (p := ⟨gb291, 2, none⟩) (Kd.S_far (p := ⟨gb291, 1, none⟩) (Kd.S_far (p := ⟨gb291, 0, none⟩) (Kd.S_types HO_307003.out BK291.out (by decide)) (fun _ hk => hk.2) (.int .i64 t298)) (fun _ hk => hk.2) (.int .i64 t299)) (fun _ hk => hk.2) (.slice Ao106 x307002_5.length co106)) (fun _ hk => hk.2) (.slice Ao107 x307003_5.length co107)) (fun _ hk => hk.1), by repeat (first | (with_reducible first | exact HI0.out | apply IsS95.alloc | apply IsS95.drewN | apply IsS95.drew | apply IsS95.set_1 | refine IsS95.far ?_ NB0_291.out _ | refine IsS95.far ?_ NB0_306.out _) | exact HI0.out), by repeat (first | (with_reducible first | exact HB.out | apply below_alloc | apply pw_below_drewN | apply below_drew1 | refine below_set ?_ (IsS95.ge HI0.out) | refine below_set ?_ GE291.out | refine below_set ?_ GE306.out) | exact HB.out), by repeat (first | (with_reducible first | exact HK.out | apply KeepBut.set_ | apply keep_drewN | apply keep_drew | apply keep_alloc | refine keep_far ?_ GW291.out _ | refine keep_far ?_ GW306.out _) | exact HK.out)⟩

end Go.Proofs.Ytdinbpfklikghaa.PLoops
