/- Functions of the program as plain Lean functions, and what a call of each comes to. No conditions. -/
import Derived.Test.YtdinbpfklikghaaPLoopsx0
import Derived.Test.YtdinbpfklikghaaPLoopsx10
import Derived.Test.YtdinbpfklikghaaPLoopsx12
import Derived.Test.YtdinbpfklikghaaPLoopsx20
import Derived.Test.YtdinbpfklikghaaPLoopsx24
import Derived.Test.YtdinbpfklikghaaPLoopsx25
import Derived.Test.YtdinbpfklikghaaPLoopsx36
import Derived.Test.YtdinbpfklikghaaPLoopsx37
import Derived.Test.YtdinbpfklikghaaPLoopsx38
import Derived.Test.YtdinbpfklikghaaPLoopsx39
import Derived.Test.YtdinbpfklikghaaPLoopsx41
namespace Go.Proofs.Ytdinbpfklikghaa.PLoops
open Go.RowKit Go.Proofs.YtdinbpfklikghaaW.PrintWords Go.Proofs.YtdinbpfklikghaaW.PrintLast Go.Proofs.YtdinbpfklikghaaW.PrintMore
attribute [local go_sem] max2_int min2_int max_two min_two max_three min_three max_four min_four   -- for this text's walks alone
set_option linter.unusedVariables false
set_option linter.unusedSimpArgs false

/-! ### laws_FnLoopAround: function 8 -/
def laws_FnLoopAround.f (k : Nat) (l0 : List Int) : Option (Bool) := if (l0.length : Int) > 1048576 then (some true) else ((spec_DrawLoopAround.f k l0).bind fun bt526 => ((impl_LoopAround.f k bt526.1 bt526.2.1 bt526.2.2).bind fun bt531 => ((spec_LoopAround.f k bt526.1 bt526.2.1 bt526.2.2).bind fun bt540 => ((laws_sameLoop.f k bt531.1 bt531.2.1 bt531.2.2.1 bt531.2.2.2 bt540.1 bt540.2.1 bt540.2.2.1 bt540.2.2.2).bind fun t548 => (if t548 = true then (if bt531.1 = 0 then ((laws_alive.f k).bind fun t549 => (some t549)) else ((impl_LoopValid.f k bt531.1 bt531.2.1 bt531.2.2.1 bt531.2.2.2).bind fun t550 => (if t550 = true then ((impl_LoopLength.f k bt531.1 bt531.2.1 bt531.2.2.1 bt531.2.2.2).bind fun t551 => (if (Int.tmod t551 2) = 0 then ((impl_LoopClosed.f k bt531.1 bt531.2.1 bt531.2.2.1 bt531.2.2.2).bind fun t552 => (if t552 = true then ((impl_LoopInside.f k bt531.1 bt531.2.1 bt531.2.2.1 bt531.2.2.2).bind fun t553 => ((laws_sameFlags.f k t553 bt526.2.2).bind fun t556 => (some t556))) else (some true))) else (some false))) else (some false)))) else (some false))))))
theorem laws_FnLoopAround.mono : ∀ a0 k, LeO (laws_FnLoopAround.f k a0) (laws_FnLoopAround.f (k + 1) a0) := by
  intro a0 k
  unfold laws_FnLoopAround.f
  repeat' first
      | (with_reducible exact impl_LoopAround.mono _ _ _ _)
      | (with_reducible exact impl_LoopClosed.mono _ _ _ _ _)
      | (with_reducible exact impl_LoopInside.mono _ _ _ _ _)
      | (with_reducible exact impl_LoopLength.mono _ _ _ _ _)
      | (with_reducible exact impl_LoopValid.mono _ _ _ _ _)
      | (with_reducible exact laws_alive.mono _)
      | (with_reducible exact laws_sameFlags.mono _ _ _)
      | (with_reducible exact laws_sameLoop.mono _ _ _ _ _ _ _ _ _)
      | (with_reducible exact spec_DrawLoopAround.mono _ _)
      | (with_reducible exact spec_LoopAround.mono _ _ _ _)
      | (with_reducible exact LeO.refl _)
      | (with_reducible exact LeO.none _)
      | (with_reducible refine LeO.ite ?_ ?_)
      | (with_reducible refine LeO.bind ?_ (fun _ => ?_))
      | exact impl_LoopAround.mono _ _ _ _
      | exact impl_LoopClosed.mono _ _ _ _ _
      | exact impl_LoopInside.mono _ _ _ _ _
      | exact impl_LoopLength.mono _ _ _ _ _
      | exact impl_LoopValid.mono _ _ _ _ _
      | exact laws_alive.mono _
      | exact laws_sameFlags.mono _ _ _
      | exact laws_sameLoop.mono _ _ _ _ _ _ _ _ _
      | exact spec_DrawLoopAround.mono _ _
      | exact spec_LoopAround.mono _ _ _ _
      | exact LeO.none _
      | refine LeO.ite ?_ ?_
      | refine LeO.bind ?_ (fun _ => ?_)
set_option maxHeartbeats 8000000 in
set_option maxRecDepth 100000 in
theorem laws_FnLoopAround.calls (k : Nat) (A0 : Option Addr) (c0 : Nat) (l0 : List Int) (r : Bool) (w : World) (hr0 : Kd.C (Kd.int .u8) w A0 l0.length l0) (hc0 : l0.length ≤ c0) (h : laws_FnLoopAround.f k l0 = some r) :
    Calls Try.prog 8 #[.slice A0 l0.length c0] w fun e w' => e = .returned (.bool r) ∧ Below w.heap.size w w' := by
  have hu27 := Try.underlying27
  have HR0 := Aside0.mk hr0
  have HC0 := Aside0.mk hc0
  clear hr0 hc0
  have HB := Aside0.mk (Below.refl w.heap.size w)
  have H : (if (l0.length : Int) > 1048576 then (some true) else ((spec_DrawLoopAround.f k l0).bind fun bt526 => ((impl_LoopAround.f k bt526.1 bt526.2.1 bt526.2.2).bind fun bt531 => ((spec_LoopAround.f k bt526.1 bt526.2.1 bt526.2.2).bind fun bt540 => ((laws_sameLoop.f k bt531.1 bt531.2.1 bt531.2.2.1 bt531.2.2.2 bt540.1 bt540.2.1 bt540.2.2.1 bt540.2.2.2).bind fun t548 => (if t548 = true then (if bt531.1 = 0 then ((laws_alive.f k).bind fun t549 => (some t549)) else ((impl_LoopValid.f k bt531.1 bt531.2.1 bt531.2.2.1 bt531.2.2.2).bind fun t550 => (if t550 = true then ((impl_LoopLength.f k bt531.1 bt531.2.1 bt531.2.2.1 bt531.2.2.2).bind fun t551 => (if (Int.tmod t551 2) = 0 then ((impl_LoopClosed.f k bt531.1 bt531.2.1 bt531.2.2.1 bt531.2.2.2).bind fun t552 => (if t552 = true then ((impl_LoopInside.f k bt531.1 bt531.2.1 bt531.2.2.1 bt531.2.2.2).bind fun t553 => ((laws_sameFlags.f k t553 bt526.2.2).bind fun t556 => (some t556))) else (some true))) else (some false))) else (some false)))) else (some false))))))) = some r := h
  clear h
  by_cases c2 : (l0.length : Int) > 1048576
  · rw [if_pos c2] at H
    have c2b0 : decide (1048576 < (l0.length : Int)) = true := decide_eq_true c2
    have c2b1 : decide (1048576 < l0.length) = true := decide_eq_true (by omega)
    clear c2
    obtain rfl := Option.some.inj H
    go_enter Try.func8, Try.ntmps8
    go_wp2
    go_ret
    exact ⟨by first | rfl | (simp [errW_none, errW_some] <;> rfl) | (simp [*, errW_none, errW_some] <;> rfl), by repeat (first | (with_reducible first | exact HB.out | apply below_alloc | apply pw_below_drewN | apply below_drew1) | exact HB.out)⟩
  · rw [if_neg c2] at H
    have c2b0 : decide (1048576 < (l0.length : Int)) = false := decide_eq_false c2
    have c2b1 : decide (1048576 < l0.length) = false := decide_eq_false (by omega)
    clear c2
    replace H := Option.bind_eq_some_iff.mp H
    obtain ⟨⟨t526, t527, t528⟩, A30, H⟩ := H
    replace H : ((impl_LoopAround.f k t526 t527 t528).bind fun bt531 => ((spec_LoopAround.f k t526 t527 t528).bind fun bt540 => ((laws_sameLoop.f k bt531.1 bt531.2.1 bt531.2.2.1 bt531.2.2.2 bt540.1 bt540.2.1 bt540.2.2.1 bt540.2.2.2).bind fun t548 => (if t548 = true then (if bt531.1 = 0 then ((laws_alive.f k).bind fun t549 => (some t549)) else ((impl_LoopValid.f k bt531.1 bt531.2.1 bt531.2.2.1 bt531.2.2.2).bind fun t550 => (if t550 = true then ((impl_LoopLength.f k bt531.1 bt531.2.1 bt531.2.2.1 bt531.2.2.2).bind fun t551 => (if (Int.tmod t551 2) = 0 then ((impl_LoopClosed.f k bt531.1 bt531.2.1 bt531.2.2.1 bt531.2.2.2).bind fun t552 => (if t552 = true then ((impl_LoopInside.f k bt531.1 bt531.2.1 bt531.2.2.1 bt531.2.2.2).bind fun t553 => ((laws_sameFlags.f k t553 t528).bind fun t556 => (some t556))) else (some true))) else (some false))) else (some false)))) else (some false))))) = some r := H
    have A3 := Aside0.mk A30
    clear A30
    replace H := Option.bind_eq_some_iff.mp H
    obtain ⟨⟨t531, t532, t533, t536⟩, A40, H⟩ := H
    replace H : ((spec_LoopAround.f k t526 t527 t528).bind fun bt540 => ((laws_sameLoop.f k t531 t532 t533 t536 bt540.1 bt540.2.1 bt540.2.2.1 bt540.2.2.2).bind fun t548 => (if t548 = true then (if t531 = 0 then ((laws_alive.f k).bind fun t549 => (some t549)) else ((impl_LoopValid.f k t531 t532 t533 t536).bind fun t550 => (if t550 = true then ((impl_LoopLength.f k t531 t532 t533 t536).bind fun t551 => (if (Int.tmod t551 2) = 0 then ((impl_LoopClosed.f k t531 t532 t533 t536).bind fun t552 => (if t552 = true then ((impl_LoopInside.f k t531 t532 t533 t536).bind fun t553 => ((laws_sameFlags.f k t553 t528).bind fun t556 => (some t556))) else (some true))) else (some false))) else (some false)))) else (some false)))) = some r := H
    have A4 := Aside0.mk A40
    clear A40
    replace H := Option.bind_eq_some_iff.mp H
    obtain ⟨⟨t540, t541, t542, t545⟩, A50, H⟩ := H
    replace H : ((laws_sameLoop.f k t531 t532 t533 t536 t540 t541 t542 t545).bind fun t548 => (if t548 = true then (if t531 = 0 then ((laws_alive.f k).bind fun t549 => (some t549)) else ((impl_LoopValid.f k t531 t532 t533 t536).bind fun t550 => (if t550 = true then ((impl_LoopLength.f k t531 t532 t533 t536).bind fun t551 => (if (Int.tmod t551 2) = 0 then ((impl_LoopClosed.f k t531 t532 t533 t536).bind fun t552 => (if t552 = true then ((impl_LoopInside.f k t531 t532 t533 t536).bind fun t553 => ((laws_sameFlags.f k t553 t528).bind fun t556 => (some t556))) else (some true))) else (some false))) else (some false)))) else (some false))) = some r := H
    have A5 := Aside0.mk A50
    clear A50
    replace H := Option.bind_eq_some_iff.mp H
    obtain ⟨t548, A60, H⟩ := H
    replace H : (if t548 = true then (if t531 = 0 then ((laws_alive.f k).bind fun t549 => (some t549)) else ((impl_LoopValid.f k t531 t532 t533 t536).bind fun t550 => (if t550 = true then ((impl_LoopLength.f k t531 t532 t533 t536).bind fun t551 => (if (Int.tmod t551 2) = 0 then ((impl_LoopClosed.f k t531 t532 t533 t536).bind fun t552 => (if t552 = true then ((impl_LoopInside.f k t531 t532 t533 t536).bind fun t553 => ((laws_sameFlags.f k t553 t528).bind fun t556 => (some t556))) else (some true))) else (some false))) else (some false)))) else (some false)) = some r := H
    have A6 := Aside0.mk A60
    clear A60
    by_cases c7 : t548 = true
    · subst c7
      have H1 : (if t531 = 0 then ((laws_alive.f k).bind fun t549 => (some t549)) else ((impl_LoopValid.f k t531 t532 t533 t536).bind fun t550 => (if t550 = true then ((impl_LoopLength.f k t531 t532 t533 t536).bind fun t551 => (if (Int.tmod t551 2) = 0 then ((impl_LoopClosed.f k t531 t532 t533 t536).bind fun t552 => (if t552 = true then ((impl_LoopInside.f k t531 t532 t533 t536).bind fun t553 => ((laws_sameFlags.f k t553 t528).bind fun t556 => (some t556))) else (some true))) else (some false))) else (some false)))) = some r := by rw [if_pos rfl] at H; exact H
      clear H
      have H := H1
      clear H1
      by_cases c8 : t531 = 0
      · rw [if_pos c8] at H
        have c8b0 : (t531 == 0) = true := beq_iff_eq.mpr c8
        have c8b1 : (t531 != 0) = false := bne_eq_false_iff_eq.mpr c8
        clear c8
        replace H := Option.bind_eq_some_iff.mp H
        obtain ⟨t549, A90, H⟩ := H
        replace H : (some t549) = some r := H
        have A9 := Aside0.mk A90
        clear A90
        obtain rfl := Option.some.inj H
        go_enter Try.func8, Try.ntmps8
        try go_wp2_with (first | ((with_reducible refine gate_callee (f := 39) rfl ?_); refine goesL_ (some 12) rfl rfl Try.func39 (by kernel_rfl) rfl #[.slice A0 l0.length c0] rfl (by (try simp only [List.map_toArray, List.map_cons, List.map_nil]); first | done | rfl | (simp only [List.length_drop, List.length_take]; rfl)) ?_; (with_reducible refine (spec_DrawLoopAround.calls k _ _ l0 t526 t527 t528 _ ?side1 ?side2 A3.out).mono ?_); (case side1 => repeat (first | exact HR0.out | (with_reducible refine Kd.C_alloc ?_ _) | (with_reducible refine Kd.C_drewN ?_ _) | (with_reducible refine Kd.C_drew ?_))); (case side2 => exact HC0.out); rintro e w10 ⟨v529, rfl, ho0, hb⟩; refine ⟨_, rfl, ?_⟩; have n0_ := Aside0.mk (Kd.Q_lower ho0 (below_size (by repeat (first | (with_reducible first | exact HB.out | apply below_alloc | apply pw_below_drewN | apply below_drew1) | exact HB.out)))); have n1_ := Aside0.mk (below_step (by repeat (first | (with_reducible first | exact HB.out | apply below_alloc | apply pw_below_drewN | apply below_drew1) | exact HB.out)) hb); clear HB; have HO530 := n0_; have HB := n1_; clear n0_ n1_; (try clear hb); (try clear hb2); (try clear hk); (try clear hi); (try clear ho0); obtain ⟨Ao11, co11, eo11, _⟩ := Kd.Q_slice HO530.out; subst eo11) | ((with_reducible refine gate_callee (f := 40) rfl ?_); refine goesL_ (some 19) rfl rfl Try.func40 (by kernel_rfl) rfl #[.int .i64 t526, .int .i64 t527, .slice Ao11 t528.length co11] rfl (by (try simp only [List.map_toArray, List.map_cons, List.map_nil]); first | done | rfl | (simp only [List.length_drop, List.length_take]; rfl)) ?_; (with_reducible refine (impl_LoopAround.calls k t526 t527 _ _ t528 t531 t532 t533 t536 _ ?side1 ?side2 A4.out).mono ?_); (case side1 => repeat (first | exact (Kd.Q_reads' HO530.out).2.2 | (with_reducible refine Kd.C_alloc ?_ _) | (with_reducible refine Kd.C_drewN ?_ _) | (with_reducible refine Kd.C_drew ?_))); (case side2 => exact (Kd.Q_reads' HO530.out).2.1); rintro e w12 ⟨v534, v537, rfl, ho0, ho1, hb⟩; refine ⟨_, rfl, ?_⟩; have n0_ := Aside0.mk (Kd.Q_below (by (with_reducible repeat (first | apply Kd.Q_alloc | apply Kd.Q_drewN | apply Kd.Q_drew)); exact HO530.out) hb); have n1_ := Aside0.mk (Kd.S_lower (Kd.S_new' ho0 (Kd.Q_lt (by (with_reducible repeat (first | apply Kd.Q_alloc | apply Kd.Q_drewN | apply Kd.Q_drew)); exact HO530.out))) (below_size (by repeat (first | (with_reducible first | exact HB.out | apply below_alloc | apply pw_below_drewN | apply below_drew1) | exact HB.out)))); have n2_ := Aside0.mk (Kd.S_lower (Kd.S_new' ho1 (Kd.Q_lt (by (with_reducible repeat (first | apply Kd.Q_alloc | apply Kd.Q_drewN | apply Kd.Q_drew)); exact HO530.out))) (below_size (by repeat (first | (with_reducible first | exact HB.out | apply below_alloc | apply pw_below_drewN | apply below_drew1) | exact HB.out)))); have n3_ := Aside0.mk (below_step (by repeat (first | (with_reducible first | exact HB.out | apply below_alloc | apply pw_below_drewN | apply below_drew1) | exact HB.out)) hb); clear HO530; clear HB; have HO530 := n0_; have HO535 := n1_; have HO538 := n2_; have HB := n3_; clear n0_ n1_ n2_ n3_; (try clear hb); (try clear hb2); (try clear hk); (try clear hi); (try clear ho0); (try clear ho1)) | ((with_reducible refine gate_dst (N := 6) rfl ?_); refine box_event ?hg (N := 6) ?hd (cs := #[.int .i64 0, .int .i64 0, .slice none 0 0, .slice none 0 0]) (t := 27) ?hr ?_; (case hd => rfl); (case hg => rfl); (case hr => first | (go_simp; done) | (go_simp; rfl)); intro gb539 hg w13 hbox hb; have n0_ := Aside0.mk (Kd.Q_below (by (with_reducible repeat (first | apply Kd.Q_alloc | apply Kd.Q_drewN | apply Kd.Q_drew)); exact HO530.out) hb); have n1_ := Aside0.mk (Kd.S_below (by (with_reducible repeat (first | apply Kd.S_alloc | apply Kd.S_drewN | apply Kd.S_drew)); exact HO535.out) hb); have n2_ := Aside0.mk (Kd.S_below (by (with_reducible repeat (first | apply Kd.S_alloc | apply Kd.S_drewN | apply Kd.S_drew)); exact HO538.out) hb); have n3_ := Aside0.mk (below_step (by repeat (first | (with_reducible first | exact HB.out | apply below_alloc | apply pw_below_drewN | apply below_drew1) | exact HB.out)) hb); have n4_ := Aside0.mk (hbox); have n5_ := Aside0.mk ((by rw [hg]; exact (below_size (by repeat (first | (with_reducible first | exact HB.out | apply below_alloc | apply pw_below_drewN | apply below_drew1) | exact HB.out))) : w.heap.size ≤ gb539)); have n6_ := Aside0.mk ((by rw [hg]; exact (below_size (by repeat (first | (with_reducible first | exact HB.out | apply below_alloc | apply pw_below_drewN | apply below_drew1) | exact HB.out))) : w.heap.size ≤ gb539)); clear HO530; clear HO535; clear HO538; clear HB; have HO530 := n0_; have HO535 := n1_; have HO538 := n2_; have HB := n3_; have BK539 := n4_; have GW539 := n5_; have GE539 := n6_; clear n0_ n1_ n2_ n3_ n4_ n5_ n6_; clear hb hbox hg; have hcz14_0 : w13.cell? ⟨gb539, 0, none⟩ = some (.int .i64 0) := (blk_cell BK539.out 0).trans rfl; have hcz14_1 : w13.cell? ⟨gb539, 1, none⟩ = some (.int .i64 0) := (blk_cell BK539.out 1).trans rfl; have hcz14_2 : w13.cell? ⟨gb539, 2, none⟩ = some (.slice none 0 0) := (blk_cell BK539.out 2).trans rfl; have hcz14_3 : w13.cell? ⟨gb539, 3, none⟩ = some (.slice none 0 0) := (blk_cell BK539.out 3).trans rfl; have hfz14_0 := blk_frozen BK539.out 0; have hfz14_1 := blk_frozen BK539.out 1; have hfz14_2 := blk_frozen BK539.out 2; have hfz14_3 := blk_frozen BK539.out 3; obtain ⟨Ao15, co15, eo15⟩ := Kd.S_slice HO535.out; subst eo15; obtain ⟨Ao16, co16, eo16⟩ := Kd.S_slice HO538.out; subst eo16))
        have n0_ : Aside0 (Kd.Q Kd.bool 4 ((((w13.setCell ⟨gb539, 0, none⟩ (.int .i64 t531)).setCell ⟨gb539, 1, none⟩ (.int .i64 t532)).setCell ⟨gb539, 2, none⟩ (.slice Ao15 t533.length co15)).setCell ⟨gb539, 3, none⟩ (.slice Ao16 t536.length co16)) w.heap.size (fun _ => True) (.slice Ao11 t528.length co11) t528) := ⟨by (with_reducible repeat (first | apply Kd.Q_alloc | apply Kd.Q_drewN | apply Kd.Q_drew)); exact Kd.Q_mono (Kd.Q_far (p := ⟨gb539, 3, none⟩) (Kd.Q_far (p := ⟨gb539, 2, none⟩) (Kd.Q_far (p := ⟨gb539, 1, none⟩) (Kd.Q_far (p := ⟨gb539, 0, none⟩) (Kd.Q_types HO530.out BK539.out (by decide)) (fun _ hk => hk.2) (.int .i64 t531)) (fun _ hk => hk.2) (.int .i64 t532)) (fun _ hk => hk.2) (.slice Ao15 t533.length co15)) (fun _ hk => hk.2) (.slice Ao16 t536.length co16)) (fun _ hk => trivial)⟩
        have n1_ : Aside0 (Kd.S (Kd.slice 4 Kd.bool) 45 ((((w13.setCell ⟨gb539, 0, none⟩ (.int .i64 t531)).setCell ⟨gb539, 1, none⟩ (.int .i64 t532)).setCell ⟨gb539, 2, none⟩ (.slice Ao15 t533.length co15)).setCell ⟨gb539, 3, none⟩ (.slice Ao16 t536.length co16)) w.heap.size (fun k_ => some k_ ≠ (.slice Ao11 t528.length co11 : Value).ownBlock ∧ some k_ ≠ (.slice Ao16 t536.length co16 : Value).ownBlock) (.slice Ao15 t533.length co15) t533) := ⟨by (with_reducible repeat (first | apply Kd.S_alloc | apply Kd.S_drewN | apply Kd.S_drew)); exact Kd.S_mono (Kd.S_far (p := ⟨gb539, 3, none⟩) (Kd.S_far (p := ⟨gb539, 2, none⟩) (Kd.S_far (p := ⟨gb539, 1, none⟩) (Kd.S_far (p := ⟨gb539, 0, none⟩) (Kd.S_types HO535.out BK539.out (by decide)) (fun _ hk => hk.2) (.int .i64 t531)) (fun _ hk => hk.2) (.int .i64 t532)) (fun _ hk => hk.2) (.slice Ao15 t533.length co15)) (fun _ hk => hk.2) (.slice Ao16 t536.length co16)) (fun _ hk => ⟨hk.1.2, hk.1.1⟩)⟩
        have n2_ : Aside0 (Kd.S (Kd.slice 4 Kd.bool) 45 ((((w13.setCell ⟨gb539, 0, none⟩ (.int .i64 t531)).setCell ⟨gb539, 1, none⟩ (.int .i64 t532)).setCell ⟨gb539, 2, none⟩ (.slice Ao15 t533.length co15)).setCell ⟨gb539, 3, none⟩ (.slice Ao16 t536.length co16)) w.heap.size (fun k_ => some k_ ≠ (.slice Ao11 t528.length co11 : Value).ownBlock ∧ some k_ ≠ (.slice Ao15 t533.length co15 : Value).ownBlock) (.slice Ao16 t536.length co16) t536) := ⟨by (with_reducible repeat (first | apply Kd.S_alloc | apply Kd.S_drewN | apply Kd.S_drew)); exact Kd.S_mono (Kd.S_far (p := ⟨gb539, 3, none⟩) (Kd.S_far (p := ⟨gb539, 2, none⟩) (Kd.S_far (p := ⟨gb539, 1, none⟩) (Kd.S_far (p := ⟨gb539, 0, none⟩) (Kd.S_types HO538.out BK539.out (by decide)) (fun _ hk => hk.2) (.int .i64 t531)) (fun _ hk => hk.2) (.int .i64 t532)) (fun _ hk => hk.2) (.slice Ao15 t533.length co15)) (fun _ hk => hk.2) (.slice Ao16 t536.length co16)) (fun _ hk => ⟨hk.1.2, hk.1.1⟩)⟩
        have n3_ : Aside0 (((((w13.setCell ⟨gb539, 0, none⟩ (.int .i64 t531)).setCell ⟨gb539, 1, none⟩ (.int .i64 t532)).setCell ⟨gb539, 2, none⟩ (.slice Ao15 t533.length co15)).setCell ⟨gb539, 3, none⟩ (.slice Ao16 t536.length co16)).heap[gb539]? = some (.cells #[.int .i64 t531, .int .i64 t532, .slice Ao15 t533.length co15, .slice Ao16 t536.length co16] 27 (0, 0))) := ⟨by (with_reducible repeat (first | refine blk_drewN ?_ _ | refine blk_drew ?_ | refine blk_alloc ?_ _)); refine blk_put (cs := #[.int .i64 t531, .int .i64 t532, .slice Ao15 t533.length co15, .slice none 0 0]) ?_ 3 _ rfl; (with_reducible repeat (first | refine blk_drewN ?_ _ | refine blk_drew ?_ | refine blk_alloc ?_ _)); refine blk_put (cs := #[.int .i64 t531, .int .i64 t532, .slice none 0 0, .slice none 0 0]) ?_ 2 _ rfl; (with_reducible repeat (first | refine blk_drewN ?_ _ | refine blk_drew ?_ | refine blk_alloc ?_ _)); refine blk_put (cs := #[.int .i64 t531, .int .i64 0, .slice none 0 0, .slice none 0 0]) ?_ 1 _ rfl; (with_reducible repeat (first | refine blk_drewN ?_ _ | refine blk_drew ?_ | refine blk_alloc ?_ _)); refine blk_put (cs := #[.int .i64 0, .int .i64 0, .slice none 0 0, .slice none 0 0]) ?_ 0 _ rfl; (with_reducible repeat (first | refine blk_drewN ?_ _ | refine blk_drew ?_ | refine blk_alloc ?_ _)); exact BK539.out⟩
        have n4_ : Aside0 (Below w.heap.size w ((((w13.setCell ⟨gb539, 0, none⟩ (.int .i64 t531)).setCell ⟨gb539, 1, none⟩ (.int .i64 t532)).setCell ⟨gb539, 2, none⟩ (.slice Ao15 t533.length co15)).setCell ⟨gb539, 3, none⟩ (.slice Ao16 t536.length co16))) := ⟨by repeat (first | (with_reducible first | exact HB.out | apply below_alloc | apply pw_below_drewN | apply below_drew1 | refine below_set ?_ GE539.out) | exact HB.out)⟩
        (try clear HO530)
        (try clear HO535)
        (try clear HO538)
        (try clear BK539)
        (try clear HB)
        generalize ((((w13.setCell ⟨gb539, 0, none⟩ (.int .i64 t531)).setCell ⟨gb539, 1, none⟩ (.int .i64 t532)).setCell ⟨gb539, 2, none⟩ (.slice Ao15 t533.length co15)).setCell ⟨gb539, 3, none⟩ (.slice Ao16 t536.length co16)) = w17 at n0_ n1_ n2_ n3_ n4_ ⊢
        have HO530 := n0_
        have HO535 := n1_
        have HO538 := n2_
        have BK539 := n3_
        have HB := n4_
        clear n0_ n1_ n2_ n3_ n4_
        have n0_ := Aside0.mk (Kd.Q_drew HO530.out)
        have n1_ := Aside0.mk (Kd.S_drew HO535.out)
        have n2_ := Aside0.mk (Kd.S_drew HO538.out)
        have n3_ := Aside0.mk (blk_drew BK539.out)
        have n4_ := Aside0.mk (below_drew1 HB.out)
        clear HO530
        clear HO535
        clear HO538
        clear BK539
        clear HB
        have HO530 := n0_
        have HO535 := n1_
        have HO538 := n2_
        have BK539 := n3_
        have HB := n4_
        clear n0_ n1_ n2_ n3_ n4_
        refine start_ (n := 7) (S := fun w' => w'.cell? ⟨gb539, 0, none⟩ = some (.int .i64 t531) ∧ w'.cell? ⟨gb539, 1, none⟩ = some (.int .i64 t532) ∧ w'.cell? ⟨gb539, 2, none⟩ = some (.slice Ao15 t533.length co15) ∧ w'.cell? ⟨gb539, 3, none⟩ = some (.slice Ao16 t536.length co16)) (ds := []) #[false, false, false, false, false, false, false] (by kernel_rfl) rfl rfl ⟨(blk_cell BK539.out 0).trans rfl, (blk_cell BK539.out 1).trans rfl, (blk_cell BK539.out 2).trans rfl, (blk_cell BK539.out 3).trans rfl⟩ (fun hHeld => ?_)
        generalize w17.drew = w18 at HO530 HO535 HO538 BK539 HB hHeld ⊢
        refine pure_ (i := 1) (N := some 21) (v := ?_) (a' := ?_) #[false, true, false, false, false, false, false] rfl rfl (by kernel_rfl) (fun _ _ _ h => h) (Or.inl ⟨by rfl, ?_⟩) ?_ ?_
        rotate_left
        · intro w'
          go_simp
          with_reducible rfl
        rotate_left
        · simp only [Act.put, List.setIfInBounds_toArray, List.set_cons_zero, List.set_cons_succ, i64_w, i32_w]
          rfl
        refine pure_ (i := 2) (N := some 22) (v := ?_) (a' := ?_) #[false, true, true, false, false, false, false] rfl rfl (by kernel_rfl) (fun _ _ _ h => h) (Or.inl ⟨by rfl, ?_⟩) ?_ ?_
        rotate_left
        · intro w'
          go_simp
          with_reducible rfl
        rotate_left
        · simp only [Act.put, List.setIfInBounds_toArray, List.set_cons_zero, List.set_cons_succ, i64_w, i32_w]
          rfl
        refine pure_ (i := 3) (N := some 23) (v := ?_) (a' := ?_) #[false, true, true, true, false, false, false] rfl rfl (by kernel_rfl) (fun _ _ _ h => h) (Or.inl ⟨by rfl, ?_⟩) ?_ ?_
        rotate_left
        · intro w'
          go_simp
          with_reducible rfl
        rotate_left
        · simp only [Act.put, List.setIfInBounds_toArray, List.set_cons_zero, List.set_cons_succ, i64_w, i32_w]
          rfl
        refine take_ (i := 0) (N := some 20) (v := ?_) (a' := ?_) #[true, true, true, true, false, false, false] rfl rfl (by kernel_rfl) (fun _ _ _ h => h) (Or.inl ⟨by rfl, ?_⟩) hHeld ?_ ?_
        rotate_left
        · rintro w' ⟨s0, s1, s2, s3⟩
          go_simp
          with_reducible rfl
        rotate_left
        · simp only [Act.put, List.setIfInBounds_toArray, List.set_cons_zero, List.set_cons_succ, i64_w, i32_w]
          rfl
        refine one_ (i := 4) (N := some 24) #[true, true, true, true, true, false, false] rfl rfl (by kernel_rfl) (by decide) (fun K hK => ?_)
        refine goes_ Try.func42 (by kernel_rfl) rfl #[.int .i64 t526, .int .i64 t527, .slice Ao11 t528.length co11] (by rfl) rfl rfl (by (try simp only [List.map_toArray, List.map_cons, List.map_nil]); first | done | rfl | (simp only [List.length_drop, List.length_take]; rfl)) ?_
        with_reducible refine (spec_LoopAround.calls k t526 t527 _ _ t528 t540 t541 t542 t545 _ ?side1 ?side2 A5.out).mono ?_
        (case side1 => repeat (first | exact (Kd.Q_reads' HO530.out).2.2 | (with_reducible refine Kd.C_alloc ?_ _) | (with_reducible refine Kd.C_drewN ?_ _) | (with_reducible refine Kd.C_drew ?_)))
        (case side2 => exact (Kd.Q_reads' HO530.out).2.1)
        rintro e w19 ⟨v543, v546, rfl, ho0, ho1, hb⟩
        refine ⟨_, rfl, ?_⟩
        have n0_ := Aside0.mk (Kd.Q_below (by (with_reducible repeat (first | apply Kd.Q_alloc | apply Kd.Q_drewN | apply Kd.Q_drew)); exact HO530.out) hb)
        have n1_ := Aside0.mk (Kd.S_mono (Kd.S_told (Kd.S_told (Kd.S_old (by (with_reducible repeat (first | apply Kd.S_alloc | apply Kd.S_drewN | apply Kd.S_drew)); exact HO535.out) hb) (Kd.S_base ho0)) (Kd.S_base ho1)) (fun _ h_ => h_.1))
        have n2_ := Aside0.mk (Kd.S_mono (Kd.S_told (Kd.S_told (Kd.S_old (by (with_reducible repeat (first | apply Kd.S_alloc | apply Kd.S_drewN | apply Kd.S_drew)); exact HO538.out) hb) (Kd.S_base ho0)) (Kd.S_base ho1)) (fun _ h_ => h_.1))
        have n3_ := Aside0.mk (Kd.S_lower (Kd.S_new' (Kd.S_new' (Kd.S_new' ho0 (Kd.Q_lt (by (with_reducible repeat (first | apply Kd.Q_alloc | apply Kd.Q_drewN | apply Kd.Q_drew)); exact HO530.out))) (Kd.S_lt (by (with_reducible repeat (first | apply Kd.S_alloc | apply Kd.S_drewN | apply Kd.S_drew)); exact HO535.out))) (Kd.S_lt (by (with_reducible repeat (first | apply Kd.S_alloc | apply Kd.S_drewN | apply Kd.S_drew)); exact HO538.out))) (below_size (by repeat (first | (with_reducible first | exact HB.out | apply below_alloc | apply pw_below_drewN | apply below_drew1 | refine below_set ?_ GE539.out) | exact HB.out))))
        have n4_ := Aside0.mk (Kd.S_lower (Kd.S_new' (Kd.S_new' (Kd.S_new' ho1 (Kd.Q_lt (by (with_reducible repeat (first | apply Kd.Q_alloc | apply Kd.Q_drewN | apply Kd.Q_drew)); exact HO530.out))) (Kd.S_lt (by (with_reducible repeat (first | apply Kd.S_alloc | apply Kd.S_drewN | apply Kd.S_drew)); exact HO535.out))) (Kd.S_lt (by (with_reducible repeat (first | apply Kd.S_alloc | apply Kd.S_drewN | apply Kd.S_drew)); exact HO538.out))) (below_size (by repeat (first | (with_reducible first | exact HB.out | apply below_alloc | apply pw_below_drewN | apply below_drew1 | refine below_set ?_ GE539.out) | exact HB.out))))
        have n5_ := Aside0.mk (blk_below (g := gb539) (o := .cells #[.int .i64 t531, .int .i64 t532, .slice Ao15 t533.length co15, .slice Ao16 t536.length co16] 27 (0, 0)) (by (with_reducible repeat (first | refine blk_drewN ?_ _ | refine blk_drew ?_ | refine blk_alloc ?_ _)); exact BK539.out) hb)
        have n6_ := Aside0.mk (below_step (by repeat (first | (with_reducible first | exact HB.out | apply below_alloc | apply pw_below_drewN | apply below_drew1 | refine below_set ?_ GE539.out) | exact HB.out)) hb)
        clear HO530
        clear HO535
        clear HO538
        clear BK539
        clear HB
        have HO530 := n0_
        have HO535 := n1_
        have HO538 := n2_
        have HO544 := n3_
        have HO547 := n4_
        have BK539 := n5_
        have HB := n6_
        clear n0_ n1_ n2_ n3_ n4_ n5_ n6_
        (try clear hb)
        (try clear hb2)
        (try clear hk)
        (try clear hi)
        (try clear ho0)
        (try clear ho1)
        obtain ⟨Ao20, co20, eo20⟩ := Kd.S_slice HO544.out
        (first | subst eo20 | (injection eo20 with f1_ f2_ f3_; have f4_ := f1_.symm; have f5_ := f3_.symm; clear f1_ f2_ f3_; subst f4_; subst f5_))
        obtain ⟨Ao21, co21, eo21⟩ := Kd.S_slice HO547.out
        (first | subst eo21 | (injection eo21 with f1_ f2_ f3_; have f4_ := f1_.symm; have f5_ := f3_.symm; clear f1_ f2_ f3_; subst f4_; subst f5_))
        refine hK.out _ _ ⟨(blk_cell BK539.out 0).trans rfl, (blk_cell BK539.out 1).trans rfl, (blk_cell BK539.out 2).trans rfl, (blk_cell BK539.out 3).trans rfl⟩ (fun hHeld => ?_)
        clear hK K
        refine norm_ (a' := ?_) ?_ ?_
        rotate_left
        · show Act.put _ (some 24) _ = _
          simp only [Act.put, List.setIfInBounds_toArray, List.set_cons_zero, List.set_cons_succ, i64_w, i32_w]
          rfl
        refine one_ (i := 5) (N := some 25) #[true, true, true, true, true, true, false] rfl rfl (by kernel_rfl) (by decide) (fun K hK => ?_)
        refine goes_ Try.func41 (by kernel_rfl) rfl #[.agg #[.int .i64 t531, .int .i64 t532, .slice Ao15 t533.length co15, .slice Ao16 t536.length co16], .agg #[.int .i64 t540, .int .i64 t541, .slice Ao20 t542.length co20, .slice Ao21 t545.length co21]] (by rfl) rfl rfl (by (try simp only [List.map_toArray, List.map_cons, List.map_nil]); first | done | rfl | (simp only [List.length_drop, List.length_take]; rfl)) ?_
        with_reducible refine (laws_sameLoop.calls k t531 t532 _ _ t533 _ _ t536 t540 t541 _ _ t542 _ _ t545 true _ ?side1 ?side2 ?side3 ?side4 ?side5 ?side6 ?side7 ?side8 A6.out).mono ?_
        (case side1 => repeat (first | exact (Kd.S_reads' HO535.out).2.2 | (with_reducible refine Kd.C_alloc ?_ _) | (with_reducible refine Kd.C_drewN ?_ _) | (with_reducible refine Kd.C_drew ?_)))
        (case side2 => exact (Kd.S_reads' HO535.out).2.1)
        (case side3 => repeat (first | exact (Kd.S_reads' HO538.out).2.2 | (with_reducible refine Kd.C_alloc ?_ _) | (with_reducible refine Kd.C_drewN ?_ _) | (with_reducible refine Kd.C_drew ?_)))
        (case side4 => exact (Kd.S_reads' HO538.out).2.1)
        (case side5 => repeat (first | exact (Kd.S_reads' HO544.out).2.2 | (with_reducible refine Kd.C_alloc ?_ _) | (with_reducible refine Kd.C_drewN ?_ _) | (with_reducible refine Kd.C_drew ?_)))
        (case side6 => exact (Kd.S_reads' HO544.out).2.1)
        (case side7 => repeat (first | exact (Kd.S_reads' HO547.out).2.2 | (with_reducible refine Kd.C_alloc ?_ _) | (with_reducible refine Kd.C_drewN ?_ _) | (with_reducible refine Kd.C_drew ?_)))
        (case side8 => exact (Kd.S_reads' HO547.out).2.1)
        rintro e w22 ⟨rfl, hb⟩
        refine ⟨_, rfl, ?_⟩
        have n0_ := Aside0.mk (Kd.Q_below (by (with_reducible repeat (first | apply Kd.Q_alloc | apply Kd.Q_drewN | apply Kd.Q_drew)); exact HO530.out) hb)
        have n1_ := Aside0.mk (Kd.S_below (by (with_reducible repeat (first | apply Kd.S_alloc | apply Kd.S_drewN | apply Kd.S_drew)); exact HO535.out) hb)
        have n2_ := Aside0.mk (Kd.S_below (by (with_reducible repeat (first | apply Kd.S_alloc | apply Kd.S_drewN | apply Kd.S_drew)); exact HO538.out) hb)
        have n3_ := Aside0.mk (Kd.S_below (by (with_reducible repeat (first | apply Kd.S_alloc | apply Kd.S_drewN | apply Kd.S_drew)); exact HO544.out) hb)
        have n4_ := Aside0.mk (Kd.S_below (by (with_reducible repeat (first | apply Kd.S_alloc | apply Kd.S_drewN | apply Kd.S_drew)); exact HO547.out) hb)
        have n5_ := Aside0.mk (blk_below (g := gb539) (o := .cells #[.int .i64 t531, .int .i64 t532, .slice Ao15 t533.length co15, .slice Ao16 t536.length co16] 27 (0, 0)) (by (with_reducible repeat (first | refine blk_drewN ?_ _ | refine blk_drew ?_ | refine blk_alloc ?_ _)); exact BK539.out) hb)
        have n6_ := Aside0.mk (below_step (by repeat (first | (with_reducible first | exact HB.out | apply below_alloc | apply pw_below_drewN | apply below_drew1 | refine below_set ?_ GE539.out) | exact HB.out)) hb)
        clear HO530
        clear HO535
        clear HO538
        clear HO544
        clear HO547
        clear BK539
        clear HB
        have HO530 := n0_
        have HO535 := n1_
        have HO538 := n2_
        have HO544 := n3_
        have HO547 := n4_
        have BK539 := n5_
        have HB := n6_
        clear n0_ n1_ n2_ n3_ n4_ n5_ n6_
        (try clear hb)
        (try clear hb2)
        (try clear hk)
        (try clear hi)
        refine hK.out _ _ ⟨(blk_cell BK539.out 0).trans rfl, (blk_cell BK539.out 1).trans rfl, (blk_cell BK539.out 2).trans rfl, (blk_cell BK539.out 3).trans rfl⟩ (fun hHeld => ?_)
        clear hK K
        refine norm_ (a' := ?_) ?_ ?_
        rotate_left
        · show Act.put _ (some 25) _ = _
          simp only [Act.put, List.setIfInBounds_toArray, List.set_cons_zero, List.set_cons_succ, i64_w, i32_w]
          rfl
        refine pure_ (i := 6) (N := some 26) (v := ?_) (a' := ?_) #[true, true, true, true, true, true, true] rfl rfl (by kernel_rfl) (fun _ _ _ h => h) (Or.inl ⟨by rfl, ?_⟩) ?_ ?_
        rotate_left
        · intro w'
          go_simp
          with_reducible rfl
        rotate_left
        · simp only [Act.put, List.setIfInBounds_toArray, List.set_cons_zero, List.set_cons_succ, i64_w, i32_w]
          rfl
        refine done_ (by kernel_rfl) ?_
        have hcz23_0 : w22.cell? ⟨gb539, 0, none⟩ = some (.int .i64 t531) := (blk_cell BK539.out 0).trans rfl
        have hcz23_1 : w22.cell? ⟨gb539, 1, none⟩ = some (.int .i64 t532) := (blk_cell BK539.out 1).trans rfl
        have hcz23_2 : w22.cell? ⟨gb539, 2, none⟩ = some (.slice Ao15 t533.length co15) := (blk_cell BK539.out 2).trans rfl
        have hcz23_3 : w22.cell? ⟨gb539, 3, none⟩ = some (.slice Ao16 t536.length co16) := (blk_cell BK539.out 3).trans rfl
        have hfz23_0 := blk_frozen BK539.out 0
        have hfz23_1 := blk_frozen BK539.out 1
        have hfz23_2 := blk_frozen BK539.out 2
        have hfz23_3 := blk_frozen BK539.out 3
        try go_wp2_with (first | ((with_reducible refine gate_callee (f := 27) rfl ?_); refine goesL_ (some 30) rfl rfl Try.func27 (by kernel_rfl) rfl #[] rfl (by (try simp only [List.map_toArray, List.map_cons, List.map_nil]); first | done | rfl | (simp only [List.length_drop, List.length_take]; rfl)) ?_; (with_reducible refine (laws_alive.calls k  t549 _ A9.out).mono ?_); rintro e w24 ⟨rfl, hb⟩; refine ⟨_, rfl, ?_⟩; have n0_ := Aside0.mk (Kd.Q_below (by (with_reducible repeat (first | apply Kd.Q_alloc | apply Kd.Q_drewN | apply Kd.Q_drew)); exact HO530.out) hb); have n1_ := Aside0.mk (Kd.S_below (by (with_reducible repeat (first | apply Kd.S_alloc | apply Kd.S_drewN | apply Kd.S_drew)); exact HO535.out) hb); have n2_ := Aside0.mk (Kd.S_below (by (with_reducible repeat (first | apply Kd.S_alloc | apply Kd.S_drewN | apply Kd.S_drew)); exact HO538.out) hb); have n3_ := Aside0.mk (Kd.S_below (by (with_reducible repeat (first | apply Kd.S_alloc | apply Kd.S_drewN | apply Kd.S_drew)); exact HO544.out) hb); have n4_ := Aside0.mk (Kd.S_below (by (with_reducible repeat (first | apply Kd.S_alloc | apply Kd.S_drewN | apply Kd.S_drew)); exact HO547.out) hb); have n5_ := Aside0.mk (blk_below (g := gb539) (o := .cells #[.int .i64 t531, .int .i64 t532, .slice Ao15 t533.length co15, .slice Ao16 t536.length co16] 27 (0, 0)) (by (with_reducible repeat (first | refine blk_drewN ?_ _ | refine blk_drew ?_ | refine blk_alloc ?_ _)); exact BK539.out) hb); have n6_ := Aside0.mk (below_step (by repeat (first | (with_reducible first | exact HB.out | apply below_alloc | apply pw_below_drewN | apply below_drew1 | refine below_set ?_ GE539.out) | exact HB.out)) hb); clear HO530; clear HO535; clear HO538; clear HO544; clear HO547; clear BK539; clear HB; have HO530 := n0_; have HO535 := n1_; have HO538 := n2_; have HO544 := n3_; have HO547 := n4_; have BK539 := n5_; have HB := n6_; clear n0_ n1_ n2_ n3_ n4_ n5_ n6_; (try clear hb); (try clear hb2); (try clear hk); (try clear hi)))
        go_ret
        exact ⟨by first | rfl | (simp [errW_none, errW_some] <;> rfl) | (simp [*, errW_none, errW_some] <;> rfl), by repeat (first | (with_reducible first | exact HB.out | apply below_alloc | apply pw_below_drewN | apply below_drew1 | refine below_set ?_ GE539.out) | exact HB.out)⟩
      · rw [if_neg c8] at H
        have c8b0 : (t531 == 0) = false := beq_eq_false_iff_ne.mpr c8
        have c8b1 : (t531 != 0) = true := bne_iff_ne.mpr c8
        replace H := Option.bind_eq_some_iff.mp H
        obtain ⟨t550, A250, H⟩ := H
        replace H : (if t550 = true then ((impl_LoopLength.f k t531 t532 t533 t536).bind fun t551 => (if (Int.tmod t551 2) = 0 then ((impl_LoopClosed.f k t531 t532 t533 t536).bind fun t552 => (if t552 = true then ((impl_LoopInside.f k t531 t532 t533 t536).bind fun t553 => ((laws_sameFlags.f k t553 t528).bind fun t556 => (some t556))) else (some true))) else (some false))) else (some false)) = some r := H
        have A25 := Aside0.mk A250
        clear A250
        by_cases c26 : t550 = true
        · subst c26
          have H1 : ((impl_LoopLength.f k t531 t532 t533 t536).bind fun t551 => (if (Int.tmod t551 2) = 0 then ((impl_LoopClosed.f k t531 t532 t533 t536).bind fun t552 => (if t552 = true then ((impl_LoopInside.f k t531 t532 t533 t536).bind fun t553 => ((laws_sameFlags.f k t553 t528).bind fun t556 => (some t556))) else (some true))) else (some false))) = some r := by rw [if_pos rfl] at H; exact H
          clear H
          have H := H1
          clear H1
          replace H := Option.bind_eq_some_iff.mp H
          obtain ⟨t551, A270, H⟩ := H
          replace H : (if (Int.tmod t551 2) = 0 then ((impl_LoopClosed.f k t531 t532 t533 t536).bind fun t552 => (if t552 = true then ((impl_LoopInside.f k t531 t532 t533 t536).bind fun t553 => ((laws_sameFlags.f k t553 t528).bind fun t556 => (some t556))) else (some true))) else (some false)) = some r := H
          have A27 := Aside0.mk A270
          clear A270
          by_cases c28 : (Int.tmod t551 2) = 0
          · rw [if_pos c28] at H
            have c28b0 : ((Int.tmod t551 2) == 0) = true := beq_iff_eq.mpr c28
            have c28b1 : ((Int.tmod t551 2) != 0) = false := bne_eq_false_iff_eq.mpr c28
            clear c28
            replace H := Option.bind_eq_some_iff.mp H
            obtain ⟨t552, A290, H⟩ := H
            replace H : (if t552 = true then ((impl_LoopInside.f k t531 t532 t533 t536).bind fun t553 => ((laws_sameFlags.f k t553 t528).bind fun t556 => (some t556))) else (some true)) = some r := H
            have A29 := Aside0.mk A290
            clear A290
            by_cases c30 : t552 = true
            · subst c30
              have H1 : ((impl_LoopInside.f k t531 t532 t533 t536).bind fun t553 => ((laws_sameFlags.f k t553 t528).bind fun t556 => (some t556))) = some r := by rw [if_pos rfl] at H; exact H
              clear H
              have H := H1
              clear H1
              replace H := Option.bind_eq_some_iff.mp H
              obtain ⟨t553, A310, H⟩ := H
              replace H : ((laws_sameFlags.f k t553 t528).bind fun t556 => (some t556)) = some r := H
              have A31 := Aside0.mk A310
              clear A310
              replace H := Option.bind_eq_some_iff.mp H
              obtain ⟨t556, A320, H⟩ := H
              replace H : (some t556) = some r := H
              have A32 := Aside0.mk A320
              clear A320
              obtain rfl := Option.some.inj H
              go_enter Try.func8, Try.ntmps8
              try go_wp2_with (first | ((with_reducible refine gate_callee (f := 39) rfl ?_); refine goesL_ (some 12) rfl rfl Try.func39 (by kernel_rfl) rfl #[.slice A0 l0.length c0] rfl (by (try simp only [List.map_toArray, List.map_cons, List.map_nil]); first | done | rfl | (simp only [List.length_drop, List.length_take]; rfl)) ?_; (with_reducible refine (spec_DrawLoopAround.calls k _ _ l0 t526 t527 t528 _ ?side1 ?side2 A3.out).mono ?_); (case side1 => repeat (first | exact HR0.out | (with_reducible refine Kd.C_alloc ?_ _) | (with_reducible refine Kd.C_drewN ?_ _) | (with_reducible refine Kd.C_drew ?_))); (case side2 => exact HC0.out); rintro e w33 ⟨v529, rfl, ho0, hb⟩; refine ⟨_, rfl, ?_⟩; have n0_ := Aside0.mk (Kd.Q_lower ho0 (below_size (by repeat (first | (with_reducible first | exact HB.out | apply below_alloc | apply pw_below_drewN | apply below_drew1) | exact HB.out)))); have n1_ := Aside0.mk (below_step (by repeat (first | (with_reducible first | exact HB.out | apply below_alloc | apply pw_below_drewN | apply below_drew1) | exact HB.out)) hb); clear HB; have HO530 := n0_; have HB := n1_; clear n0_ n1_; (try clear hb); (try clear hb2); (try clear hk); (try clear hi); (try clear ho0); obtain ⟨Ao34, co34, eo34, _⟩ := Kd.Q_slice HO530.out; subst eo34) | ((with_reducible refine gate_callee (f := 40) rfl ?_); refine goesL_ (some 19) rfl rfl Try.func40 (by kernel_rfl) rfl #[.int .i64 t526, .int .i64 t527, .slice Ao34 t528.length co34] rfl (by (try simp only [List.map_toArray, List.map_cons, List.map_nil]); first | done | rfl | (simp only [List.length_drop, List.length_take]; rfl)) ?_; (with_reducible refine (impl_LoopAround.calls k t526 t527 _ _ t528 t531 t532 t533 t536 _ ?side1 ?side2 A4.out).mono ?_); (case side1 => repeat (first | exact (Kd.Q_reads' HO530.out).2.2 | (with_reducible refine Kd.C_alloc ?_ _) | (with_reducible refine Kd.C_drewN ?_ _) | (with_reducible refine Kd.C_drew ?_))); (case side2 => exact (Kd.Q_reads' HO530.out).2.1); rintro e w35 ⟨v534, v537, rfl, ho0, ho1, hb⟩; refine ⟨_, rfl, ?_⟩; have n0_ := Aside0.mk (Kd.Q_below (by (with_reducible repeat (first | apply Kd.Q_alloc | apply Kd.Q_drewN | apply Kd.Q_drew)); exact HO530.out) hb); have n1_ := Aside0.mk (Kd.S_lower (Kd.S_new' ho0 (Kd.Q_lt (by (with_reducible repeat (first | apply Kd.Q_alloc | apply Kd.Q_drewN | apply Kd.Q_drew)); exact HO530.out))) (below_size (by repeat (first | (with_reducible first | exact HB.out | apply below_alloc | apply pw_below_drewN | apply below_drew1) | exact HB.out)))); have n2_ := Aside0.mk (Kd.S_lower (Kd.S_new' ho1 (Kd.Q_lt (by (with_reducible repeat (first | apply Kd.Q_alloc | apply Kd.Q_drewN | apply Kd.Q_drew)); exact HO530.out))) (below_size (by repeat (first | (with_reducible first | exact HB.out | apply below_alloc | apply pw_below_drewN | apply below_drew1) | exact HB.out)))); have n3_ := Aside0.mk (below_step (by repeat (first | (with_reducible first | exact HB.out | apply below_alloc | apply pw_below_drewN | apply below_drew1) | exact HB.out)) hb); clear HO530; clear HB; have HO530 := n0_; have HO535 := n1_; have HO538 := n2_; have HB := n3_; clear n0_ n1_ n2_ n3_; (try clear hb); (try clear hb2); (try clear hk); (try clear hi); (try clear ho0); (try clear ho1)) | ((with_reducible refine gate_dst (N := 6) rfl ?_); refine box_event ?hg (N := 6) ?hd (cs := #[.int .i64 0, .int .i64 0, .slice none 0 0, .slice none 0 0]) (t := 27) ?hr ?_; (case hd => rfl); (case hg => rfl); (case hr => first | (go_simp; done) | (go_simp; rfl)); intro gb539 hg w36 hbox hb; have n0_ := Aside0.mk (Kd.Q_below (by (with_reducible repeat (first | apply Kd.Q_alloc | apply Kd.Q_drewN | apply Kd.Q_drew)); exact HO530.out) hb); have n1_ := Aside0.mk (Kd.S_below (by (with_reducible repeat (first | apply Kd.S_alloc | apply Kd.S_drewN | apply Kd.S_drew)); exact HO535.out) hb); have n2_ := Aside0.mk (Kd.S_below (by (with_reducible repeat (first | apply Kd.S_alloc | apply Kd.S_drewN | apply Kd.S_drew)); exact HO538.out) hb); have n3_ := Aside0.mk (below_step (by repeat (first | (with_reducible first | exact HB.out | apply below_alloc | apply pw_below_drewN | apply below_drew1) | exact HB.out)) hb); have n4_ := Aside0.mk (hbox); have n5_ := Aside0.mk ((by rw [hg]; exact (below_size (by repeat (first | (with_reducible first | exact HB.out | apply below_alloc | apply pw_below_drewN | apply below_drew1) | exact HB.out))) : w.heap.size ≤ gb539)); have n6_ := Aside0.mk ((by rw [hg]; exact (below_size (by repeat (first | (with_reducible first | exact HB.out | apply below_alloc | apply pw_below_drewN | apply below_drew1) | exact HB.out))) : w.heap.size ≤ gb539)); clear HO530; clear HO535; clear HO538; clear HB; have HO530 := n0_; have HO535 := n1_; have HO538 := n2_; have HB := n3_; have BK539 := n4_; have GW539 := n5_; have GE539 := n6_; clear n0_ n1_ n2_ n3_ n4_ n5_ n6_; clear hb hbox hg; have hcz37_0 : w36.cell? ⟨gb539, 0, none⟩ = some (.int .i64 0) := (blk_cell BK539.out 0).trans rfl; have hcz37_1 : w36.cell? ⟨gb539, 1, none⟩ = some (.int .i64 0) := (blk_cell BK539.out 1).trans rfl; have hcz37_2 : w36.cell? ⟨gb539, 2, none⟩ = some (.slice none 0 0) := (blk_cell BK539.out 2).trans rfl; have hcz37_3 : w36.cell? ⟨gb539, 3, none⟩ = some (.slice none 0 0) := (blk_cell BK539.out 3).trans rfl; have hfz37_0 := blk_frozen BK539.out 0; have hfz37_1 := blk_frozen BK539.out 1; have hfz37_2 := blk_frozen BK539.out 2; have hfz37_3 := blk_frozen BK539.out 3; obtain ⟨Ao38, co38, eo38⟩ := Kd.S_slice HO535.out; subst eo38; obtain ⟨Ao39, co39, eo39⟩ := Kd.S_slice HO538.out; subst eo39))
              have n0_ : Aside0 (Kd.Q Kd.bool 4 ((((w36.setCell ⟨gb539, 0, none⟩ (.int .i64 t531)).setCell ⟨gb539, 1, none⟩ (.int .i64 t532)).setCell ⟨gb539, 2, none⟩ (.slice Ao38 t533.length co38)).setCell ⟨gb539, 3, none⟩ (.slice Ao39 t536.length co39)) w.heap.size (fun _ => True) (.slice Ao34 t528.length co34) t528) := ⟨by (with_reducible repeat (first | apply Kd.Q_alloc | apply Kd.Q_drewN | apply Kd.Q_drew)); exact Kd.Q_mono (Kd.Q_far (p := ⟨gb539, 3, none⟩) (Kd.Q_far (p := ⟨gb539, 2, none⟩) (Kd.Q_far (p := ⟨gb539, 1, none⟩) (Kd.Q_far (p := ⟨gb539, 0, none⟩) (Kd.Q_types HO530.out BK539.out (by decide)) (fun _ hk => hk.2) (.int .i64 t531)) (fun _ hk => hk.2) (.int .i64 t532)) (fun _ hk => hk.2) (.slice Ao38 t533.length co38)) (fun _ hk => hk.2) (.slice Ao39 t536.length co39)) (fun _ hk => trivial)⟩
              have n1_ : Aside0 (Kd.S (Kd.slice 4 Kd.bool) 45 ((((w36.setCell ⟨gb539, 0, none⟩ (.int .i64 t531)).setCell ⟨gb539, 1, none⟩ (.int .i64 t532)).setCell ⟨gb539, 2, none⟩ (.slice Ao38 t533.length co38)).setCell ⟨gb539, 3, none⟩ (.slice Ao39 t536.length co39)) w.heap.size (fun k_ => some k_ ≠ (.slice Ao34 t528.length co34 : Value).ownBlock ∧ some k_ ≠ (.slice Ao39 t536.length co39 : Value).ownBlock) (.slice Ao38 t533.length co38) t533) := ⟨by (with_reducible repeat (first | apply Kd.S_alloc | apply Kd.S_drewN | apply Kd.S_drew)); exact Kd.S_mono (Kd.S_far (p := ⟨gb539, 3, none⟩) (Kd.S_far (p := ⟨gb539, 2, none⟩) (Kd.S_far (p := ⟨gb539, 1, none⟩) (Kd.S_far (p := ⟨gb539, 0, none⟩) (Kd.S_types HO535.out BK539.out (by decide)) (fun _ hk => hk.2) (.int .i64 t531)) (fun _ hk => hk.2) (.int .i64 t532)) (fun _ hk => hk.2) (.slice Ao38 t533.length co38)) (fun _ hk => hk.2) (.slice Ao39 t536.length co39)) (fun _ hk => ⟨hk.1.2, hk.1.1⟩)⟩
              have n2_ : Aside0 (Kd.S (Kd.slice 4 Kd.bool) 45 ((((w36.setCell ⟨gb539, 0, none⟩ (.int .i64 t531)).setCell ⟨gb539, 1, none⟩ (.int .i64 t532)).setCell ⟨gb539, 2, none⟩ (.slice Ao38 t533.length co38)).setCell ⟨gb539, 3, none⟩ (.slice Ao39 t536.length co39)) w.heap.size (fun k_ => some k_ ≠ (.slice Ao34 t528.length co34 : Value).ownBlock ∧ some k_ ≠ (.slice Ao38 t533.length co38 : Value).ownBlock) (.slice Ao39 t536.length co39) t536) := ⟨by (with_reducible repeat (first | apply Kd.S_alloc | apply Kd.S_drewN | apply Kd.S_drew)); exact Kd.S_mono (Kd.S_far (p := ⟨gb539, 3, none⟩) (Kd.S_far (p := ⟨gb539, 2, none⟩) (Kd.S_far (p := ⟨gb539, 1, none⟩) (Kd.S_far (p := ⟨gb539, 0, none⟩) (Kd.S_types HO538.out BK539.out (by decide)) (fun _ hk => hk.2) (.int .i64 t531)) (fun _ hk => hk.2) (.int .i64 t532)) (fun _ hk => hk.2) (.slice Ao38 t533.length co38)) (fun _ hk => hk.2) (.slice Ao39 t536.length co39)) (fun _ hk => ⟨hk.1.2, hk.1.1⟩)⟩
              have n3_ : Aside0 (((((w36.setCell ⟨gb539, 0, none⟩ (.int .i64 t531)).setCell ⟨gb539, 1, none⟩ (.int .i64 t532)).setCell ⟨gb539, 2, none⟩ (.slice Ao38 t533.length co38)).setCell ⟨gb539, 3, none⟩ (.slice Ao39 t536.length co39)).heap[gb539]? = some (.cells #[.int .i64 t531, .int .i64 t532, .slice Ao38 t533.length co38, .slice Ao39 t536.length co39] 27 (0, 0))) := ⟨by (with_reducible repeat (first | refine blk_drewN ?_ _ | refine blk_drew ?_ | refine blk_alloc ?_ _)); refine blk_put (cs := #[.int .i64 t531, .int .i64 t532, .slice Ao38 t533.length co38, .slice none 0 0]) ?_ 3 _ rfl; (with_reducible repeat (first | refine blk_drewN ?_ _ | refine blk_drew ?_ | refine blk_alloc ?_ _)); refine blk_put (cs := #[.int .i64 t531, .int .i64 t532, .slice none 0 0, .slice none 0 0]) ?_ 2 _ rfl; (with_reducible repeat (first | refine blk_drewN ?_ _ | refine blk_drew ?_ | refine blk_alloc ?_ _)); refine blk_put (cs := #[.int .i64 t531, .int .i64 0, .slice none 0 0, .slice none 0 0]) ?_ 1 _ rfl; (with_reducible repeat (first | refine blk_drewN ?_ _ | refine blk_drew ?_ | refine blk_alloc ?_ _)); refine blk_put (cs := #[.int .i64 0, .int .i64 0, .slice none 0 0, .slice none 0 0]) ?_ 0 _ rfl; (with_reducible repeat (first | refine blk_drewN ?_ _ | refine blk_drew ?_ | refine blk_alloc ?_ _)); exact BK539.out⟩
              have n4_ : Aside0 (Below w.heap.size w ((((w36.setCell ⟨gb539, 0, none⟩ (.int .i64 t531)).setCell ⟨gb539, 1, none⟩ (.int .i64 t532)).setCell ⟨gb539, 2, none⟩ (.slice Ao38 t533.length co38)).setCell ⟨gb539, 3, none⟩ (.slice Ao39 t536.length co39))) := ⟨by repeat (first | (with_reducible first | exact HB.out | apply below_alloc | apply pw_below_drewN | apply below_drew1 | refine below_set ?_ GE539.out) | exact HB.out)⟩
              (try clear HO530)
              (try clear HO535)
              (try clear HO538)
              (try clear BK539)
              (try clear HB)
              generalize ((((w36.setCell ⟨gb539, 0, none⟩ (.int .i64 t531)).setCell ⟨gb539, 1, none⟩ (.int .i64 t532)).setCell ⟨gb539, 2, none⟩ (.slice Ao38 t533.length co38)).setCell ⟨gb539, 3, none⟩ (.slice Ao39 t536.length co39)) = w40 at n0_ n1_ n2_ n3_ n4_ ⊢
              have HO530 := n0_
              have HO535 := n1_
              have HO538 := n2_
              have BK539 := n3_
              have HB := n4_
              clear n0_ n1_ n2_ n3_ n4_
              have n0_ := Aside0.mk (Kd.Q_drew HO530.out)
              have n1_ := Aside0.mk (Kd.S_drew HO535.out)
              have n2_ := Aside0.mk (Kd.S_drew HO538.out)
              have n3_ := Aside0.mk (blk_drew BK539.out)
              have n4_ := Aside0.mk (below_drew1 HB.out)
              clear HO530
              clear HO535
              clear HO538
              clear BK539
              clear HB
              have HO530 := n0_
              have HO535 := n1_
              have HO538 := n2_
              have BK539 := n3_
              have HB := n4_
              clear n0_ n1_ n2_ n3_ n4_
              refine start_ (n := 7) (S := fun w' => w'.cell? ⟨gb539, 0, none⟩ = some (.int .i64 t531) ∧ w'.cell? ⟨gb539, 1, none⟩ = some (.int .i64 t532) ∧ w'.cell? ⟨gb539, 2, none⟩ = some (.slice Ao38 t533.length co38) ∧ w'.cell? ⟨gb539, 3, none⟩ = some (.slice Ao39 t536.length co39)) (ds := []) #[false, false, false, false, false, false, false] (by kernel_rfl) rfl rfl ⟨(blk_cell BK539.out 0).trans rfl, (blk_cell BK539.out 1).trans rfl, (blk_cell BK539.out 2).trans rfl, (blk_cell BK539.out 3).trans rfl⟩ (fun hHeld => ?_)
              generalize w40.drew = w41 at HO530 HO535 HO538 BK539 HB hHeld ⊢
              refine pure_ (i := 1) (N := some 21) (v := ?_) (a' := ?_) #[false, true, false, false, false, false, false] rfl rfl (by kernel_rfl) (fun _ _ _ h => h) (Or.inl ⟨by rfl, ?_⟩) ?_ ?_
              rotate_left
              · intro w'
                go_simp
                with_reducible rfl
              rotate_left
              · simp only [Act.put, List.setIfInBounds_toArray, List.set_cons_zero, List.set_cons_succ, i64_w, i32_w]
                rfl
              refine pure_ (i := 2) (N := some 22) (v := ?_) (a' := ?_) #[false, true, true, false, false, false, false] rfl rfl (by kernel_rfl) (fun _ _ _ h => h) (Or.inl ⟨by rfl, ?_⟩) ?_ ?_
              rotate_left
              · intro w'
                go_simp
                with_reducible rfl
              rotate_left
              · simp only [Act.put, List.setIfInBounds_toArray, List.set_cons_zero, List.set_cons_succ, i64_w, i32_w]
                rfl
              refine pure_ (i := 3) (N := some 23) (v := ?_) (a' := ?_) #[false, true, true, true, false, false, false] rfl rfl (by kernel_rfl) (fun _ _ _ h => h) (Or.inl ⟨by rfl, ?_⟩) ?_ ?_
              rotate_left
              · intro w'
                go_simp
                with_reducible rfl
              rotate_left
              · simp only [Act.put, List.setIfInBounds_toArray, List.set_cons_zero, List.set_cons_succ, i64_w, i32_w]
                rfl
              refine take_ (i := 0) (N := some 20) (v := ?_) (a' := ?_) #[true, true, true, true, false, false, false] rfl rfl (by kernel_rfl) (fun _ _ _ h => h) (Or.inl ⟨by rfl, ?_⟩) hHeld ?_ ?_
              rotate_left
              · rintro w' ⟨s0, s1, s2, s3⟩
                go_simp
                with_reducible rfl
              rotate_left
              · simp only [Act.put, List.setIfInBounds_toArray, List.set_cons_zero, List.set_cons_succ, i64_w, i32_w]
                rfl
              refine one_ (i := 4) (N := some 24) #[true, true, true, true, true, false, false] rfl rfl (by kernel_rfl) (by decide) (fun K hK => ?_)
              refine goes_ Try.func42 (by kernel_rfl) rfl #[.int .i64 t526, .int .i64 t527, .slice Ao34 t528.length co34] (by rfl) rfl rfl (by (try simp only [List.map_toArray, List.map_cons, List.map_nil]); first | done | rfl | (simp only [List.length_drop, List.length_take]; rfl)) ?_
              with_reducible refine (spec_LoopAround.calls k t526 t527 _ _ t528 t540 t541 t542 t545 _ ?side1 ?side2 A5.out).mono ?_
              (case side1 => repeat (first | exact (Kd.Q_reads' HO530.out).2.2 | (with_reducible refine Kd.C_alloc ?_ _) | (with_reducible refine Kd.C_drewN ?_ _) | (with_reducible refine Kd.C_drew ?_)))
              (case side2 => exact (Kd.Q_reads' HO530.out).2.1)
              rintro e w42 ⟨v543, v546, rfl, ho0, ho1, hb⟩
              refine ⟨_, rfl, ?_⟩
              have n0_ := Aside0.mk (Kd.Q_below (by (with_reducible repeat (first | apply Kd.Q_alloc | apply Kd.Q_drewN | apply Kd.Q_drew)); exact HO530.out) hb)
              have n1_ := Aside0.mk (Kd.S_mono (Kd.S_told (Kd.S_told (Kd.S_old (by (with_reducible repeat (first | apply Kd.S_alloc | apply Kd.S_drewN | apply Kd.S_drew)); exact HO535.out) hb) (Kd.S_base ho0)) (Kd.S_base ho1)) (fun _ h_ => h_.1))
              have n2_ := Aside0.mk (Kd.S_mono (Kd.S_told (Kd.S_told (Kd.S_old (by (with_reducible repeat (first | apply Kd.S_alloc | apply Kd.S_drewN | apply Kd.S_drew)); exact HO538.out) hb) (Kd.S_base ho0)) (Kd.S_base ho1)) (fun _ h_ => h_.1))
              have n3_ := Aside0.mk (Kd.S_lower (Kd.S_new' (Kd.S_new' (Kd.S_new' ho0 (Kd.Q_lt (by (with_reducible repeat (first | apply Kd.Q_alloc | apply Kd.Q_drewN | apply Kd.Q_drew)); exact HO530.out))) (Kd.S_lt (by (with_reducible repeat (first | apply Kd.S_alloc | apply Kd.S_drewN | apply Kd.S_drew)); exact HO535.out))) (Kd.S_lt (by (with_reducible repeat (first | apply Kd.S_alloc | apply Kd.S_drewN | apply Kd.S_drew)); exact HO538.out))) (below_size (by repeat (first | (with_reducible first | exact HB.out | apply below_alloc | apply pw_below_drewN | apply below_drew1 | refine below_set ?_ GE539.out) | exact HB.out))))
              have n4_ := Aside0.mk (Kd.S_lower (Kd.S_new' (Kd.S_new' (Kd.S_new' ho1 (Kd.Q_lt (by (with_reducible repeat (first | apply Kd.Q_alloc | apply Kd.Q_drewN | apply Kd.Q_drew)); exact HO530.out))) (Kd.S_lt (by (with_reducible repeat (first | apply Kd.S_alloc | apply Kd.S_drewN | apply Kd.S_drew)); exact HO535.out))) (Kd.S_lt (by (with_reducible repeat (first | apply Kd.S_alloc | apply Kd.S_drewN | apply Kd.S_drew)); exact HO538.out))) (below_size (by repeat (first | (with_reducible first | exact HB.out | apply below_alloc | apply pw_below_drewN | apply below_drew1 | refine below_set ?_ GE539.out) | exact HB.out))))
              have n5_ := Aside0.mk (blk_below (g := gb539) (o := .cells #[.int .i64 t531, .int .i64 t532, .slice Ao38 t533.length co38, .slice Ao39 t536.length co39] 27 (0, 0)) (by (with_reducible repeat (first | refine blk_drewN ?_ _ | refine blk_drew ?_ | refine blk_alloc ?_ _)); exact BK539.out) hb)
              have n6_ := Aside0.mk (below_step (by repeat (first | (with_reducible first | exact HB.out | apply below_alloc | apply pw_below_drewN | apply below_drew1 | refine below_set ?_ GE539.out) | exact HB.out)) hb)
              clear HO530
              clear HO535
              clear HO538
              clear BK539
              clear HB
              have HO530 := n0_
              have HO535 := n1_
              have HO538 := n2_
              have HO544 := n3_
              have HO547 := n4_
              have BK539 := n5_
              have HB := n6_
              clear n0_ n1_ n2_ n3_ n4_ n5_ n6_
              (try clear hb)
              (try clear hb2)
              (try clear hk)
              (try clear hi)
              (try clear ho0)
              (try clear ho1)
              obtain ⟨Ao43, co43, eo43⟩ := Kd.S_slice HO544.out
              (first | subst eo43 | (injection eo43 with f1_ f2_ f3_; have f4_ := f1_.symm; have f5_ := f3_.symm; clear f1_ f2_ f3_; subst f4_; subst f5_))
              obtain ⟨Ao44, co44, eo44⟩ := Kd.S_slice HO547.out
              (first | subst eo44 | (injection eo44 with f1_ f2_ f3_; have f4_ := f1_.symm; have f5_ := f3_.symm; clear f1_ f2_ f3_; subst f4_; subst f5_))
              refine hK.out _ _ ⟨(blk_cell BK539.out 0).trans rfl, (blk_cell BK539.out 1).trans rfl, (blk_cell BK539.out 2).trans rfl, (blk_cell BK539.out 3).trans rfl⟩ (fun hHeld => ?_)
              clear hK K
              refine norm_ (a' := ?_) ?_ ?_
              rotate_left
              · show Act.put _ (some 24) _ = _
                simp only [Act.put, List.setIfInBounds_toArray, List.set_cons_zero, List.set_cons_succ, i64_w, i32_w]
                rfl
              refine one_ (i := 5) (N := some 25) #[true, true, true, true, true, true, false] rfl rfl (by kernel_rfl) (by decide) (fun K hK => ?_)
              refine goes_ Try.func41 (by kernel_rfl) rfl #[.agg #[.int .i64 t531, .int .i64 t532, .slice Ao38 t533.length co38, .slice Ao39 t536.length co39], .agg #[.int .i64 t540, .int .i64 t541, .slice Ao43 t542.length co43, .slice Ao44 t545.length co44]] (by rfl) rfl rfl (by (try simp only [List.map_toArray, List.map_cons, List.map_nil]); first | done | rfl | (simp only [List.length_drop, List.length_take]; rfl)) ?_
              with_reducible refine (laws_sameLoop.calls k t531 t532 _ _ t533 _ _ t536 t540 t541 _ _ t542 _ _ t545 true _ ?side1 ?side2 ?side3 ?side4 ?side5 ?side6 ?side7 ?side8 A6.out).mono ?_
              (case side1 => repeat (first | exact (Kd.S_reads' HO535.out).2.2 | (with_reducible refine Kd.C_alloc ?_ _) | (with_reducible refine Kd.C_drewN ?_ _) | (with_reducible refine Kd.C_drew ?_)))
              (case side2 => exact (Kd.S_reads' HO535.out).2.1)
              (case side3 => repeat (first | exact (Kd.S_reads' HO538.out).2.2 | (with_reducible refine Kd.C_alloc ?_ _) | (with_reducible refine Kd.C_drewN ?_ _) | (with_reducible refine Kd.C_drew ?_)))
              (case side4 => exact (Kd.S_reads' HO538.out).2.1)
              (case side5 => repeat (first | exact (Kd.S_reads' HO544.out).2.2 | (with_reducible refine Kd.C_alloc ?_ _) | (with_reducible refine Kd.C_drewN ?_ _) | (with_reducible refine Kd.C_drew ?_)))
              (case side6 => exact (Kd.S_reads' HO544.out).2.1)
              (case side7 => repeat (first | exact (Kd.S_reads' HO547.out).2.2 | (with_reducible refine Kd.C_alloc ?_ _) | (with_reducible refine Kd.C_drewN ?_ _) | (with_reducible refine Kd.C_drew ?_)))
              (case side8 => exact (Kd.S_reads' HO547.out).2.1)
              rintro e w45 ⟨rfl, hb⟩
              refine ⟨_, rfl, ?_⟩
              have n0_ := Aside0.mk (Kd.Q_below (by (with_reducible repeat (first | apply Kd.Q_alloc | apply Kd.Q_drewN | apply Kd.Q_drew)); exact HO530.out) hb)
              have n1_ := Aside0.mk (Kd.S_below (by (with_reducible repeat (first | apply Kd.S_alloc | apply Kd.S_drewN | apply Kd.S_drew)); exact HO535.out) hb)
              have n2_ := Aside0.mk (Kd.S_below (by (with_reducible repeat (first | apply Kd.S_alloc | apply Kd.S_drewN | apply Kd.S_drew)); exact HO538.out) hb)
              have n3_ := Aside0.mk (Kd.S_below (by (with_reducible repeat (first | apply Kd.S_alloc | apply Kd.S_drewN | apply Kd.S_drew)); exact HO544.out) hb)
              have n4_ := Aside0.mk (Kd.S_below (by (with_reducible repeat (first | apply Kd.S_alloc | apply Kd.S_drewN | apply Kd.S_drew)); exact HO547.out) hb)
              have n5_ := Aside0.mk (blk_below (g := gb539) (o := .cells #[.int .i64 t531, .int .i64 t532, .slice Ao38 t533.length co38, .slice Ao39 t536.length co39] 27 (0, 0)) (by (with_reducible repeat (first | refine blk_drewN ?_ _ | refine blk_drew ?_ | refine blk_alloc ?_ _)); exact BK539.out) hb)
              have n6_ := Aside0.mk (below_step (by repeat (first | (with_reducible first | exact HB.out | apply below_alloc | apply pw_below_drewN | apply below_drew1 | refine below_set ?_ GE539.out) | exact HB.out)) hb)
              clear HO530
              clear HO535
              clear HO538
              clear HO544
              clear HO547
              clear BK539
              clear HB
              have HO530 := n0_
              have HO535 := n1_
              have HO538 := n2_
              have HO544 := n3_
              have HO547 := n4_
              have BK539 := n5_
              have HB := n6_
              clear n0_ n1_ n2_ n3_ n4_ n5_ n6_
              (try clear hb)
              (try clear hb2)
              (try clear hk)
              (try clear hi)
              refine hK.out _ _ ⟨(blk_cell BK539.out 0).trans rfl, (blk_cell BK539.out 1).trans rfl, (blk_cell BK539.out 2).trans rfl, (blk_cell BK539.out 3).trans rfl⟩ (fun hHeld => ?_)
              clear hK K
              refine norm_ (a' := ?_) ?_ ?_
              rotate_left
              · show Act.put _ (some 25) _ = _
                simp only [Act.put, List.setIfInBounds_toArray, List.set_cons_zero, List.set_cons_succ, i64_w, i32_w]
                rfl
              refine pure_ (i := 6) (N := some 26) (v := ?_) (a' := ?_) #[true, true, true, true, true, true, true] rfl rfl (by kernel_rfl) (fun _ _ _ h => h) (Or.inl ⟨by rfl, ?_⟩) ?_ ?_
              rotate_left
              · intro w'
                go_simp
                with_reducible rfl
              rotate_left
              · simp only [Act.put, List.setIfInBounds_toArray, List.set_cons_zero, List.set_cons_succ, i64_w, i32_w]
                rfl
              refine done_ (by kernel_rfl) ?_
              have hcz46_0 : w45.cell? ⟨gb539, 0, none⟩ = some (.int .i64 t531) := (blk_cell BK539.out 0).trans rfl
              have hcz46_1 : w45.cell? ⟨gb539, 1, none⟩ = some (.int .i64 t532) := (blk_cell BK539.out 1).trans rfl
              have hcz46_2 : w45.cell? ⟨gb539, 2, none⟩ = some (.slice Ao38 t533.length co38) := (blk_cell BK539.out 2).trans rfl
              have hcz46_3 : w45.cell? ⟨gb539, 3, none⟩ = some (.slice Ao39 t536.length co39) := (blk_cell BK539.out 3).trans rfl
              have hfz46_0 := blk_frozen BK539.out 0
              have hfz46_1 := blk_frozen BK539.out 1
              have hfz46_2 := blk_frozen BK539.out 2
              have hfz46_3 := blk_frozen BK539.out 3
              try go_wp2_with (first | ((with_reducible refine gate_callee (f := 43) rfl ?_); refine goesL_ (some 32) rfl rfl Try.func43 (by kernel_rfl) rfl #[.agg #[.int .i64 t531, .int .i64 t532, .slice Ao38 t533.length co38, .slice Ao39 t536.length co39]] rfl (by (try simp only [List.map_toArray, List.map_cons, List.map_nil]); first | done | rfl | (simp only [List.length_drop, List.length_take]; rfl)) ?_; (with_reducible refine (impl_LoopValid.calls k t531 t532 _ _ t533 _ _ t536 true _ ?side1 ?side2 ?side3 ?side4 A25.out).mono ?_); (case side1 => repeat (first | exact (Kd.S_reads' HO535.out).2.2 | (with_reducible refine Kd.C_alloc ?_ _) | (with_reducible refine Kd.C_drewN ?_ _) | (with_reducible refine Kd.C_drew ?_))); (case side2 => exact (Kd.S_reads' HO535.out).2.1); (case side3 => repeat (first | exact (Kd.S_reads' HO538.out).2.2 | (with_reducible refine Kd.C_alloc ?_ _) | (with_reducible refine Kd.C_drewN ?_ _) | (with_reducible refine Kd.C_drew ?_))); (case side4 => exact (Kd.S_reads' HO538.out).2.1); rintro e w47 ⟨rfl, hb⟩; refine ⟨_, rfl, ?_⟩; have n0_ := Aside0.mk (Kd.Q_below (by (with_reducible repeat (first | apply Kd.Q_alloc | apply Kd.Q_drewN | apply Kd.Q_drew)); exact HO530.out) hb); have n1_ := Aside0.mk (Kd.S_below (by (with_reducible repeat (first | apply Kd.S_alloc | apply Kd.S_drewN | apply Kd.S_drew)); exact HO535.out) hb); have n2_ := Aside0.mk (Kd.S_below (by (with_reducible repeat (first | apply Kd.S_alloc | apply Kd.S_drewN | apply Kd.S_drew)); exact HO538.out) hb); have n3_ := Aside0.mk (Kd.S_below (by (with_reducible repeat (first | apply Kd.S_alloc | apply Kd.S_drewN | apply Kd.S_drew)); exact HO544.out) hb); have n4_ := Aside0.mk (Kd.S_below (by (with_reducible repeat (first | apply Kd.S_alloc | apply Kd.S_drewN | apply Kd.S_drew)); exact HO547.out) hb); have n5_ := Aside0.mk (blk_below (g := gb539) (o := .cells #[.int .i64 t531, .int .i64 t532, .slice Ao38 t533.length co38, .slice Ao39 t536.length co39] 27 (0, 0)) (by (with_reducible repeat (first | refine blk_drewN ?_ _ | refine blk_drew ?_ | refine blk_alloc ?_ _)); exact BK539.out) hb); have n6_ := Aside0.mk (below_step (by repeat (first | (with_reducible first | exact HB.out | apply below_alloc | apply pw_below_drewN | apply below_drew1 | refine below_set ?_ GE539.out) | exact HB.out)) hb); clear HO530; clear HO535; clear HO538; clear HO544; clear HO547; clear BK539; clear HB; have HO530 := n0_; have HO535 := n1_; have HO538 := n2_; have HO544 := n3_; have HO547 := n4_; have BK539 := n5_; have HB := n6_; clear n0_ n1_ n2_ n3_ n4_ n5_ n6_; (try clear hb); (try clear hb2); (try clear hk); (try clear hi); have hcz48_0 : w47.cell? ⟨gb539, 0, none⟩ = some (.int .i64 t531) := (blk_cell BK539.out 0).trans rfl; have hcz48_1 : w47.cell? ⟨gb539, 1, none⟩ = some (.int .i64 t532) := (blk_cell BK539.out 1).trans rfl; have hcz48_2 : w47.cell? ⟨gb539, 2, none⟩ = some (.slice Ao38 t533.length co38) := (blk_cell BK539.out 2).trans rfl; have hcz48_3 : w47.cell? ⟨gb539, 3, none⟩ = some (.slice Ao39 t536.length co39) := (blk_cell BK539.out 3).trans rfl; have hfz48_0 := blk_frozen BK539.out 0; have hfz48_1 := blk_frozen BK539.out 1; have hfz48_2 := blk_frozen BK539.out 2; have hfz48_3 := blk_frozen BK539.out 3) | (go_at_call 21; (with_reducible refine (impl_LoopLength.calls k t531 t532 _ _ t533 _ _ t536 t551 _ ?side1 ?side2 ?side3 ?side4 A27.out).mono ?_); (case side1 => repeat (first | exact (Kd.S_reads' HO535.out).2.2 | (with_reducible refine Kd.C_alloc ?_ _) | (with_reducible refine Kd.C_drewN ?_ _) | (with_reducible refine Kd.C_drew ?_))); (case side2 => exact (Kd.S_reads' HO535.out).2.1); (case side3 => repeat (first | exact (Kd.S_reads' HO538.out).2.2 | (with_reducible refine Kd.C_alloc ?_ _) | (with_reducible refine Kd.C_drewN ?_ _) | (with_reducible refine Kd.C_drew ?_))); (case side4 => exact (Kd.S_reads' HO538.out).2.1); rintro e w49 ⟨rfl, hb⟩; have n0_ := Aside0.mk (Kd.Q_below (by (with_reducible repeat (first | apply Kd.Q_alloc | apply Kd.Q_drewN | apply Kd.Q_drew)); exact HO530.out) hb); have n1_ := Aside0.mk (Kd.S_below (by (with_reducible repeat (first | apply Kd.S_alloc | apply Kd.S_drewN | apply Kd.S_drew)); exact HO535.out) hb); have n2_ := Aside0.mk (Kd.S_below (by (with_reducible repeat (first | apply Kd.S_alloc | apply Kd.S_drewN | apply Kd.S_drew)); exact HO538.out) hb); have n3_ := Aside0.mk (Kd.S_below (by (with_reducible repeat (first | apply Kd.S_alloc | apply Kd.S_drewN | apply Kd.S_drew)); exact HO544.out) hb); have n4_ := Aside0.mk (Kd.S_below (by (with_reducible repeat (first | apply Kd.S_alloc | apply Kd.S_drewN | apply Kd.S_drew)); exact HO547.out) hb); have n5_ := Aside0.mk (blk_below (g := gb539) (o := .cells #[.int .i64 t531, .int .i64 t532, .slice Ao38 t533.length co38, .slice Ao39 t536.length co39] 27 (0, 0)) (by (with_reducible repeat (first | refine blk_drewN ?_ _ | refine blk_drew ?_ | refine blk_alloc ?_ _)); exact BK539.out) hb); have n6_ := Aside0.mk (below_step (by repeat (first | (with_reducible first | exact HB.out | apply below_alloc | apply pw_below_drewN | apply below_drew1 | refine below_set ?_ GE539.out) | exact HB.out)) hb); clear HO530; clear HO535; clear HO538; clear HO544; clear HO547; clear BK539; clear HB; have HO530 := n0_; have HO535 := n1_; have HO538 := n2_; have HO544 := n3_; have HO547 := n4_; have BK539 := n5_; have HB := n6_; clear n0_ n1_ n2_ n3_ n4_ n5_ n6_; (try clear hb); (try clear hb2); (try clear hk); (try clear hi); have hcz50_0 : w49.cell? ⟨gb539, 0, none⟩ = some (.int .i64 t531) := (blk_cell BK539.out 0).trans rfl; have hcz50_1 : w49.cell? ⟨gb539, 1, none⟩ = some (.int .i64 t532) := (blk_cell BK539.out 1).trans rfl; have hcz50_2 : w49.cell? ⟨gb539, 2, none⟩ = some (.slice Ao38 t533.length co38) := (blk_cell BK539.out 2).trans rfl; have hcz50_3 : w49.cell? ⟨gb539, 3, none⟩ = some (.slice Ao39 t536.length co39) := (blk_cell BK539.out 3).trans rfl; have hfz50_0 := blk_frozen BK539.out 0; have hfz50_1 := blk_frozen BK539.out 1; have hfz50_2 := blk_frozen BK539.out 2; have hfz50_3 := blk_frozen BK539.out 3) | (go_at_call 38; (with_reducible refine (impl_LoopClosed.calls k t531 t532 _ _ t533 _ _ t536 true _ ?side1 ?side2 ?side3 ?side4 A29.out).mono ?_); (case side1 => repeat (first | exact (Kd.S_reads' HO535.out).2.2 | (with_reducible refine Kd.C_alloc ?_ _) | (with_reducible refine Kd.C_drewN ?_ _) | (with_reducible refine Kd.C_drew ?_))); (case side2 => exact (Kd.S_reads' HO535.out).2.1); (case side3 => repeat (first | exact (Kd.S_reads' HO538.out).2.2 | (with_reducible refine Kd.C_alloc ?_ _) | (with_reducible refine Kd.C_drewN ?_ _) | (with_reducible refine Kd.C_drew ?_))); (case side4 => exact (Kd.S_reads' HO538.out).2.1); rintro e w51 ⟨rfl, hb⟩; have n0_ := Aside0.mk (Kd.Q_below (by (with_reducible repeat (first | apply Kd.Q_alloc | apply Kd.Q_drewN | apply Kd.Q_drew)); exact HO530.out) hb); have n1_ := Aside0.mk (Kd.S_below (by (with_reducible repeat (first | apply Kd.S_alloc | apply Kd.S_drewN | apply Kd.S_drew)); exact HO535.out) hb); have n2_ := Aside0.mk (Kd.S_below (by (with_reducible repeat (first | apply Kd.S_alloc | apply Kd.S_drewN | apply Kd.S_drew)); exact HO538.out) hb); have n3_ := Aside0.mk (Kd.S_below (by (with_reducible repeat (first | apply Kd.S_alloc | apply Kd.S_drewN | apply Kd.S_drew)); exact HO544.out) hb); have n4_ := Aside0.mk (Kd.S_below (by (with_reducible repeat (first | apply Kd.S_alloc | apply Kd.S_drewN | apply Kd.S_drew)); exact HO547.out) hb); have n5_ := Aside0.mk (blk_below (g := gb539) (o := .cells #[.int .i64 t531, .int .i64 t532, .slice Ao38 t533.length co38, .slice Ao39 t536.length co39] 27 (0, 0)) (by (with_reducible repeat (first | refine blk_drewN ?_ _ | refine blk_drew ?_ | refine blk_alloc ?_ _)); exact BK539.out) hb); have n6_ := Aside0.mk (below_step (by repeat (first | (with_reducible first | exact HB.out | apply below_alloc | apply pw_below_drewN | apply below_drew1 | refine below_set ?_ GE539.out) | exact HB.out)) hb); clear HO530; clear HO535; clear HO538; clear HO544; clear HO547; clear BK539; clear HB; have HO530 := n0_; have HO535 := n1_; have HO538 := n2_; have HO544 := n3_; have HO547 := n4_; have BK539 := n5_; have HB := n6_; clear n0_ n1_ n2_ n3_ n4_ n5_ n6_; (try clear hb); (try clear hb2); (try clear hk); (try clear hi); have hcz52_0 : w51.cell? ⟨gb539, 0, none⟩ = some (.int .i64 t531) := (blk_cell BK539.out 0).trans rfl; have hcz52_1 : w51.cell? ⟨gb539, 1, none⟩ = some (.int .i64 t532) := (blk_cell BK539.out 1).trans rfl; have hcz52_2 : w51.cell? ⟨gb539, 2, none⟩ = some (.slice Ao38 t533.length co38) := (blk_cell BK539.out 2).trans rfl; have hcz52_3 : w51.cell? ⟨gb539, 3, none⟩ = some (.slice Ao39 t536.length co39) := (blk_cell BK539.out 3).trans rfl; have hfz52_0 := blk_frozen BK539.out 0; have hfz52_1 := blk_frozen BK539.out 1; have hfz52_2 := blk_frozen BK539.out 2; have hfz52_3 := blk_frozen BK539.out 3) | (go_at_call 45; (with_reducible refine (impl_LoopInside.calls k t531 t532 _ _ t533 _ _ t536 t553 _ ?side1 ?side2 ?side3 ?side4 A31.out).mono ?_); (case side1 => repeat (first | exact (Kd.S_reads' HO535.out).2.2 | (with_reducible refine Kd.C_alloc ?_ _) | (with_reducible refine Kd.C_drewN ?_ _) | (with_reducible refine Kd.C_drew ?_))); (case side2 => exact (Kd.S_reads' HO535.out).2.1); (case side3 => repeat (first | exact (Kd.S_reads' HO538.out).2.2 | (with_reducible refine Kd.C_alloc ?_ _) | (with_reducible refine Kd.C_drewN ?_ _) | (with_reducible refine Kd.C_drew ?_))); (case side4 => exact (Kd.S_reads' HO538.out).2.1); rintro e w53 ⟨v554, rfl, ho0, hb⟩; have n0_ := Aside0.mk (Kd.Q_elder' (by (with_reducible repeat (first | apply Kd.Q_alloc | apply Kd.Q_drewN | apply Kd.Q_drew)); exact HO530.out) (Kd.R_base ho0) hb); have n1_ := Aside0.mk (Kd.S_elder' (by (with_reducible repeat (first | apply Kd.S_alloc | apply Kd.S_drewN | apply Kd.S_drew)); exact HO535.out) (Kd.R_base ho0) hb); have n2_ := Aside0.mk (Kd.S_elder' (by (with_reducible repeat (first | apply Kd.S_alloc | apply Kd.S_drewN | apply Kd.S_drew)); exact HO538.out) (Kd.R_base ho0) hb); have n3_ := Aside0.mk (Kd.S_elder' (by (with_reducible repeat (first | apply Kd.S_alloc | apply Kd.S_drewN | apply Kd.S_drew)); exact HO544.out) (Kd.R_base ho0) hb); have n4_ := Aside0.mk (Kd.S_elder' (by (with_reducible repeat (first | apply Kd.S_alloc | apply Kd.S_drewN | apply Kd.S_drew)); exact HO547.out) (Kd.R_base ho0) hb); have n5_ := Aside0.mk (Kd.R_lower (Kd.R_new' ho0 (Kd.Q_lt (by (with_reducible repeat (first | apply Kd.Q_alloc | apply Kd.Q_drewN | apply Kd.Q_drew)); exact HO530.out))) (below_size (by repeat (first | (with_reducible first | exact HB.out | apply below_alloc | apply pw_below_drewN | apply below_drew1 | refine below_set ?_ GE539.out) | exact HB.out)))); have n6_ := Aside0.mk (blk_below (g := gb539) (o := .cells #[.int .i64 t531, .int .i64 t532, .slice Ao38 t533.length co38, .slice Ao39 t536.length co39] 27 (0, 0)) (by (with_reducible repeat (first | refine blk_drewN ?_ _ | refine blk_drew ?_ | refine blk_alloc ?_ _)); exact BK539.out) hb); have n7_ := Aside0.mk (below_step (by repeat (first | (with_reducible first | exact HB.out | apply below_alloc | apply pw_below_drewN | apply below_drew1 | refine below_set ?_ GE539.out) | exact HB.out)) hb); clear HO530; clear HO535; clear HO538; clear HO544; clear HO547; clear BK539; clear HB; have HO530 := n0_; have HO535 := n1_; have HO538 := n2_; have HO544 := n3_; have HO547 := n4_; have HO555 := n5_; have BK539 := n6_; have HB := n7_; clear n0_ n1_ n2_ n3_ n4_ n5_ n6_ n7_; (try clear hb); (try clear hb2); (try clear hk); (try clear hi); (try clear ho0); obtain ⟨Ao54, co54, eo54⟩ := Kd.R_slice HO555.out; subst eo54) | (go_at_call 44; (with_reducible refine (laws_sameFlags.calls k _ _ t553 _ _ t528 t556 _ ?side1 ?side2 ?side3 ?side4 A32.out).mono ?_); (case side1 => repeat (first | exact (Kd.R_reads' HO555.out).2.2 | (with_reducible refine Kd.C_alloc ?_ _) | (with_reducible refine Kd.C_drewN ?_ _) | (with_reducible refine Kd.C_drew ?_))); (case side2 => exact (Kd.R_reads' HO555.out).2.1); (case side3 => repeat (first | exact (Kd.Q_reads' HO530.out).2.2 | (with_reducible refine Kd.C_alloc ?_ _) | (with_reducible refine Kd.C_drewN ?_ _) | (with_reducible refine Kd.C_drew ?_))); (case side4 => exact (Kd.Q_reads' HO530.out).2.1); rintro e w' ⟨rfl, ⟨nd, rfl⟩⟩))
              go_ret
              exact ⟨by first | rfl | (simp [errW_none, errW_some] <;> rfl) | (simp [*, errW_none, errW_some] <;> rfl), by repeat (first | (with_reducible first | exact HB.out | apply below_alloc | apply pw_below_drewN | apply below_drew1 | refine below_set ?_ GE539.out) | exact HB.out)⟩
            · replace c30 := Bool.eq_false_iff.mpr c30
              subst c30
              have H1 : (some true) = some r := by rw [if_neg (show ¬ (false = true) by decide)] at H; exact H
              clear H
              have H := H1
              clear H1
              obtain rfl := Option.some.inj H
              go_enter Try.func8, Try.ntmps8
              try go_wp2_with (first | ((with_reducible refine gate_callee (f := 39) rfl ?_); refine goesL_ (some 12) rfl rfl Try.func39 (by kernel_rfl) rfl #[.slice A0 l0.length c0] rfl (by (try simp only [List.map_toArray, List.map_cons, List.map_nil]); first | done | rfl | (simp only [List.length_drop, List.length_take]; rfl)) ?_; (with_reducible refine (spec_DrawLoopAround.calls k _ _ l0 t526 t527 t528 _ ?side1 ?side2 A3.out).mono ?_); (case side1 => repeat (first | exact HR0.out | (with_reducible refine Kd.C_alloc ?_ _) | (with_reducible refine Kd.C_drewN ?_ _) | (with_reducible refine Kd.C_drew ?_))); (case side2 => exact HC0.out); rintro e w55 ⟨v529, rfl, ho0, hb⟩; refine ⟨_, rfl, ?_⟩; have n0_ := Aside0.mk (Kd.Q_lower ho0 (below_size (by repeat (first | (with_reducible first | exact HB.out | apply below_alloc | apply pw_below_drewN | apply below_drew1) | exact HB.out)))); have n1_ := Aside0.mk (below_step (by repeat (first | (with_reducible first | exact HB.out | apply below_alloc | apply pw_below_drewN | apply below_drew1) | exact HB.out)) hb); clear HB; have HO530 := n0_; have HB := n1_; clear n0_ n1_; (try clear hb); (try clear hb2); (try clear hk); (try clear hi); (try clear ho0); obtain ⟨Ao56, co56, eo56, _⟩ := Kd.Q_slice HO530.out; subst eo56) | ((with_reducible refine gate_callee (f := 40) rfl ?_); refine goesL_ (some 19) rfl rfl Try.func40 (by kernel_rfl) rfl #[.int .i64 t526, .int .i64 t527, .slice Ao56 t528.length co56] rfl (by (try simp only [List.map_toArray, List.map_cons, List.map_nil]); first | done | rfl | (simp only [List.length_drop, List.length_take]; rfl)) ?_; (with_reducible refine (impl_LoopAround.calls k t526 t527 _ _ t528 t531 t532 t533 t536 _ ?side1 ?side2 A4.out).mono ?_); (case side1 => repeat (first | exact (Kd.Q_reads' HO530.out).2.2 | (with_reducible refine Kd.C_alloc ?_ _) | (with_reducible refine Kd.C_drewN ?_ _) | (with_reducible refine Kd.C_drew ?_))); (case side2 => exact (Kd.Q_reads' HO530.out).2.1); rintro e w57 ⟨v534, v537, rfl, ho0, ho1, hb⟩; refine ⟨_, rfl, ?_⟩; have n0_ := Aside0.mk (Kd.Q_below (by (with_reducible repeat (first | apply Kd.Q_alloc | apply Kd.Q_drewN | apply Kd.Q_drew)); exact HO530.out) hb); have n1_ := Aside0.mk (Kd.S_lower (Kd.S_new' ho0 (Kd.Q_lt (by (with_reducible repeat (first | apply Kd.Q_alloc | apply Kd.Q_drewN | apply Kd.Q_drew)); exact HO530.out))) (below_size (by repeat (first | (with_reducible first | exact HB.out | apply below_alloc | apply pw_below_drewN | apply below_drew1) | exact HB.out)))); have n2_ := Aside0.mk (Kd.S_lower (Kd.S_new' ho1 (Kd.Q_lt (by (with_reducible repeat (first | apply Kd.Q_alloc | apply Kd.Q_drewN | apply Kd.Q_drew)); exact HO530.out))) (below_size (by repeat (first | (with_reducible first | exact HB.out | apply below_alloc | apply pw_below_drewN | apply below_drew1) | exact HB.out)))); have n3_ := Aside0.mk (below_step (by repeat (first | (with_reducible first | exact HB.out | apply below_alloc | apply pw_below_drewN | apply below_drew1) | exact HB.out)) hb); clear HO530; clear HB; have HO530 := n0_; have HO535 := n1_; have HO538 := n2_; have HB := n3_; clear n0_ n1_ n2_ n3_; (try clear hb); (try clear hb2); (try clear hk); (try clear hi); (try clear ho0); (try clear ho1)) | ((with_reducible refine gate_dst (N := 6) rfl ?_); refine box_event ?hg (N := 6) ?hd (cs := #[.int .i64 0, .int .i64 0, .slice none 0 0, .slice none 0 0]) (t := 27) ?hr ?_; (case hd => rfl); (case hg => rfl); (case hr => first | (go_simp; done) | (go_simp; rfl)); intro gb539 hg w58 hbox hb; have n0_ := Aside0.mk (Kd.Q_below (by (with_reducible repeat (first | apply Kd.Q_alloc | apply Kd.Q_drewN | apply Kd.Q_drew)); exact HO530.out) hb); have n1_ := Aside0.mk (Kd.S_below (by (with_reducible repeat (first | apply Kd.S_alloc | apply Kd.S_drewN | apply Kd.S_drew)); exact HO535.out) hb); have n2_ := Aside0.mk (Kd.S_below (by (with_reducible repeat (first | apply Kd.S_alloc | apply Kd.S_drewN | apply Kd.S_drew)); exact HO538.out) hb); have n3_ := Aside0.mk (below_step (by repeat (first | (with_reducible first | exact HB.out | apply below_alloc | apply pw_below_drewN | apply below_drew1) | exact HB.out)) hb); have n4_ := Aside0.mk (hbox); have n5_ := Aside0.mk ((by rw [hg]; exact (below_size (by repeat (first | (with_reducible first | exact HB.out | apply below_alloc | apply pw_below_drewN | apply below_drew1) | exact HB.out))) : w.heap.size ≤ gb539)); have n6_ := Aside0.mk ((by rw [hg]; exact (below_size (by repeat (first | (with_reducible first | exact HB.out | apply below_alloc | apply pw_below_drewN | apply below_drew1) | exact HB.out))) : w.heap.size ≤ gb539)); clear HO530; clear HO535; clear HO538; clear HB; have HO530 := n0_; have HO535 := n1_; have HO538 := n2_; have HB := n3_; have BK539 := n4_; have GW539 := n5_; have GE539 := n6_; clear n0_ n1_ n2_ n3_ n4_ n5_ n6_; clear hb hbox hg; have hcz59_0 : w58.cell? ⟨gb539, 0, none⟩ = some (.int .i64 0) := (blk_cell BK539.out 0).trans rfl; have hcz59_1 : w58.cell? ⟨gb539, 1, none⟩ = some (.int .i64 0) := (blk_cell BK539.out 1).trans rfl; have hcz59_2 : w58.cell? ⟨gb539, 2, none⟩ = some (.slice none 0 0) := (blk_cell BK539.out 2).trans rfl; have hcz59_3 : w58.cell? ⟨gb539, 3, none⟩ = some (.slice none 0 0) := (blk_cell BK539.out 3).trans rfl; have hfz59_0 := blk_frozen BK539.out 0; have hfz59_1 := blk_frozen BK539.out 1; have hfz59_2 := blk_frozen BK539.out 2; have hfz59_3 := blk_frozen BK539.out 3; obtain ⟨Ao60, co60, eo60⟩ := Kd.S_slice HO535.out; subst eo60; obtain ⟨Ao61, co61, eo61⟩ := Kd.S_slice HO538.out; subst eo61))
              have n0_ : Aside0 (Kd.Q Kd.bool 4 ((((w58.setCell ⟨gb539, 0, none⟩ (.int .i64 t531)).setCell ⟨gb539, 1, none⟩ (.int .i64 t532)).setCell ⟨gb539, 2, none⟩ (.slice Ao60 t533.length co60)).setCell ⟨gb539, 3, none⟩ (.slice Ao61 t536.length co61)) w.heap.size (fun _ => True) (.slice Ao56 t528.length co56) t528) := ⟨by (with_reducible repeat (first | apply Kd.Q_alloc | apply Kd.Q_drewN | apply Kd.Q_drew)); exact Kd.Q_mono (Kd.Q_far (p := ⟨gb539, 3, none⟩) (Kd.Q_far (p := ⟨gb539, 2, none⟩) (Kd.Q_far (p := ⟨gb539, 1, none⟩) (Kd.Q_far (p := ⟨gb539, 0, none⟩) (Kd.Q_types HO530.out BK539.out (by decide)) (fun _ hk => hk.2) (.int .i64 t531)) (fun _ hk => hk.2) (.int .i64 t532)) (fun _ hk => hk.2) (.slice Ao60 t533.length co60)) (fun _ hk => hk.2) (.slice Ao61 t536.length co61)) (fun _ hk => trivial)⟩
              have n1_ : Aside0 (Kd.S (Kd.slice 4 Kd.bool) 45 ((((w58.setCell ⟨gb539, 0, none⟩ (.int .i64 t531)).setCell ⟨gb539, 1, none⟩ (.int .i64 t532)).setCell ⟨gb539, 2, none⟩ (.slice Ao60 t533.length co60)).setCell ⟨gb539, 3, none⟩ (.slice Ao61 t536.length co61)) w.heap.size (fun k_ => some k_ ≠ (.slice Ao56 t528.length co56 : Value).ownBlock ∧ some k_ ≠ (.slice Ao61 t536.length co61 : Value).ownBlock) (.slice Ao60 t533.length co60) t533) := ⟨by (with_reducible repeat (first | apply Kd.S_alloc | apply Kd.S_drewN | apply Kd.S_drew)); exact Kd.S_mono (Kd.S_far (p := ⟨gb539, 3, none⟩) (Kd.S_far (p := ⟨gb539, 2, none⟩) (Kd.S_far (p := ⟨gb539, 1, none⟩) (Kd.S_far (p := ⟨gb539, 0, none⟩) (Kd.S_types HO535.out BK539.out (by decide)) (fun _ hk => hk.2) (.int .i64 t531)) (fun _ hk => hk.2) (.int .i64 t532)) (fun _ hk => hk.2) (.slice Ao60 t533.length co60)) (fun _ hk => hk.2) (.slice Ao61 t536.length co61)) (fun _ hk => ⟨hk.1.2, hk.1.1⟩)⟩
              have n2_ : Aside0 (Kd.S (Kd.slice 4 Kd.bool) 45 ((((w58.setCell ⟨gb539, 0, none⟩ (.int .i64 t531)).setCell ⟨gb539, 1, none⟩ (.int .i64 t532)).setCell ⟨gb539, 2, none⟩ (.slice Ao60 t533.length co60)).setCell ⟨gb539, 3, none⟩ (.slice Ao61 t536.length co61)) w.heap.size (fun k_ => some k_ ≠ (.slice Ao56 t528.length co56 : Value).ownBlock ∧ some k_ ≠ (.slice Ao60 t533.length co60 : Value).ownBlock) (.slice Ao61 t536.length co61) t536) := ⟨by (with_reducible repeat (first | apply Kd.S_alloc | apply Kd.S_drewN | apply Kd.S_drew)); exact Kd.S_mono (Kd.S_far (p := ⟨gb539, 3, none⟩) (Kd.S_far (p := ⟨gb539, 2, none⟩) (Kd.S_far (p := ⟨gb539, 1, none⟩) (Kd.S_far (p := ⟨gb539, 0, none⟩) (Kd.S_types HO538.out BK539.out (by decide)) (fun _ hk => hk.2) (.int .i64 t531)) (fun _ hk => hk.2) (.int .i64 t532)) (fun _ hk => hk.2) (.slice Ao60 t533.length co60)) (fun _ hk => hk.2) (.slice Ao61 t536.length co61)) (fun _ hk => ⟨hk.1.2, hk.1.1⟩)⟩
              have n3_ : Aside0 (((((w58.setCell ⟨gb539, 0, none⟩ (.int .i64 t531)).setCell ⟨gb539, 1, none⟩ (.int .i64 t532)).setCell ⟨gb539, 2, none⟩ (.slice Ao60 t533.length co60)).setCell ⟨gb539, 3, none⟩ (.slice Ao61 t536.length co61)).heap[gb539]? = some (.cells #[.int .i64 t531, .int .i64 t532, .slice Ao60 t533.length co60, .slice Ao61 t536.length co61] 27 (0, 0))) := ⟨by (with_reducible repeat (first | refine blk_drewN ?_ _ | refine blk_drew ?_ | refine blk_alloc ?_ _)); refine blk_put (cs := #[.int .i64 t531, .int .i64 t532, .slice Ao60 t533.length co60, .slice none 0 0]) ?_ 3 _ rfl; (with_reducible repeat (first | refine blk_drewN ?_ _ | refine blk_drew ?_ | refine blk_alloc ?_ _)); refine blk_put (cs := #[.int .i64 t531, .int .i64 t532, .slice none 0 0, .slice none 0 0]) ?_ 2 _ rfl; (with_reducible repeat (first | refine blk_drewN ?_ _ | refine blk_drew ?_ | refine blk_alloc ?_ _)); refine blk_put (cs := #[.int .i64 t531, .int .i64 0, .slice none 0 0, .slice none 0 0]) ?_ 1 _ rfl; (with_reducible repeat (first | refine blk_drewN ?_ _ | refine blk_drew ?_ | refine blk_alloc ?_ _)); refine blk_put (cs := #[.int .i64 0, .int .i64 0, .slice none 0 0, .slice none 0 0]) ?_ 0 _ rfl; (with_reducible repeat (first | refine blk_drewN ?_ _ | refine blk_drew ?_ | refine blk_alloc ?_ _)); exact BK539.out⟩
              have n4_ : Aside0 (Below w.heap.size w ((((w58.setCell ⟨gb539, 0, none⟩ (.int .i64 t531)).setCell ⟨gb539, 1, none⟩ (.int .i64 t532)).setCell ⟨gb539, 2, none⟩ (.slice Ao60 t533.length co60)).setCell ⟨gb539, 3, none⟩ (.slice Ao61 t536.length co61))) := ⟨by repeat (first | (with_reducible first | exact HB.out | apply below_alloc | apply pw_below_drewN | apply below_drew1 | refine below_set ?_ GE539.out) | exact HB.out)⟩
              (try clear HO530)
              (try clear HO535)
              (try clear HO538)
              (try clear BK539)
              (try clear HB)
              generalize ((((w58.setCell ⟨gb539, 0, none⟩ (.int .i64 t531)).setCell ⟨gb539, 1, none⟩ (.int .i64 t532)).setCell ⟨gb539, 2, none⟩ (.slice Ao60 t533.length co60)).setCell ⟨gb539, 3, none⟩ (.slice Ao61 t536.length co61)) = w62 at n0_ n1_ n2_ n3_ n4_ ⊢
              have HO530 := n0_
              have HO535 := n1_
              have HO538 := n2_
              have BK539 := n3_
              have HB := n4_
              clear n0_ n1_ n2_ n3_ n4_
              have n0_ := Aside0.mk (Kd.Q_drew HO530.out)
              have n1_ := Aside0.mk (Kd.S_drew HO535.out)
              have n2_ := Aside0.mk (Kd.S_drew HO538.out)
              have n3_ := Aside0.mk (blk_drew BK539.out)
              have n4_ := Aside0.mk (below_drew1 HB.out)
              clear HO530
              clear HO535
              clear HO538
              clear BK539
              clear HB
              have HO530 := n0_
              have HO535 := n1_
              have HO538 := n2_
              have BK539 := n3_
              have HB := n4_
              clear n0_ n1_ n2_ n3_ n4_
              refine start_ (n := 7) (S := fun w' => w'.cell? ⟨gb539, 0, none⟩ = some (.int .i64 t531) ∧ w'.cell? ⟨gb539, 1, none⟩ = some (.int .i64 t532) ∧ w'.cell? ⟨gb539, 2, none⟩ = some (.slice Ao60 t533.length co60) ∧ w'.cell? ⟨gb539, 3, none⟩ = some (.slice Ao61 t536.length co61)) (ds := []) #[false, false, false, false, false, false, false] (by kernel_rfl) rfl rfl ⟨(blk_cell BK539.out 0).trans rfl, (blk_cell BK539.out 1).trans rfl, (blk_cell BK539.out 2).trans rfl, (blk_cell BK539.out 3).trans rfl⟩ (fun hHeld => ?_)
              generalize w62.drew = w63 at HO530 HO535 HO538 BK539 HB hHeld ⊢
              refine pure_ (i := 1) (N := some 21) (v := ?_) (a' := ?_) #[false, true, false, false, false, false, false] rfl rfl (by kernel_rfl) (fun _ _ _ h => h) (Or.inl ⟨by rfl, ?_⟩) ?_ ?_
              rotate_left
              · intro w'
                go_simp
                with_reducible rfl
              rotate_left
              · simp only [Act.put, List.setIfInBounds_toArray, List.set_cons_zero, List.set_cons_succ, i64_w, i32_w]
                rfl
              refine pure_ (i := 2) (N := some 22) (v := ?_) (a' := ?_) #[false, true, true, false, false, false, false] rfl rfl (by kernel_rfl) (fun _ _ _ h => h) (Or.inl ⟨by rfl, ?_⟩) ?_ ?_
              rotate_left
              · intro w'
                go_simp
                with_reducible rfl
              rotate_left
              · simp only [Act.put, List.setIfInBounds_toArray, List.set_cons_zero, List.set_cons_succ, i64_w, i32_w]
                rfl
              refine pure_ (i := 3) (N := some 23) (v := ?_) (a' := ?_) #[false, true, true, true, false, false, false] rfl rfl (by kernel_rfl) (fun _ _ _ h => h) (Or.inl ⟨by rfl, ?_⟩) ?_ ?_
              rotate_left
              · intro w'
                go_simp
                with_reducible rfl
              rotate_left
              · simp only [Act.put, List.setIfInBounds_toArray, List.set_cons_zero, List.set_cons_succ, i64_w, i32_w]
                rfl
              refine take_ (i := 0) (N := some 20) (v := ?_) (a' := ?_) #[true, true, true, true, false, false, false] rfl rfl (by kernel_rfl) (fun _ _ _ h => h) (Or.inl ⟨by rfl, ?_⟩) hHeld ?_ ?_
              rotate_left
              · rintro w' ⟨s0, s1, s2, s3⟩
                go_simp
                with_reducible rfl
              rotate_left
              · simp only [Act.put, List.setIfInBounds_toArray, List.set_cons_zero, List.set_cons_succ, i64_w, i32_w]
                rfl
              refine one_ (i := 4) (N := some 24) #[true, true, true, true, true, false, false] rfl rfl (by kernel_rfl) (by decide) (fun K hK => ?_)
              refine goes_ Try.func42 (by kernel_rfl) rfl #[.int .i64 t526, .int .i64 t527, .slice Ao56 t528.length co56] (by rfl) rfl rfl (by (try simp only [List.map_toArray, List.map_cons, List.map_nil]); first | done | rfl | (simp only [List.length_drop, List.length_take]; rfl)) ?_
              with_reducible refine (spec_LoopAround.calls k t526 t527 _ _ t528 t540 t541 t542 t545 _ ?side1 ?side2 A5.out).mono ?_
              (case side1 => repeat (first | exact (Kd.Q_reads' HO530.out).2.2 | (with_reducible refine Kd.C_alloc ?_ _) | (with_reducible refine Kd.C_drewN ?_ _) | (with_reducible refine Kd.C_drew ?_)))
              (case side2 => exact (Kd.Q_reads' HO530.out).2.1)
              rintro e w64 ⟨v543, v546, rfl, ho0, ho1, hb⟩
              refine ⟨_, rfl, ?_⟩
              have n0_ := Aside0.mk (Kd.Q_below (by (with_reducible repeat (first | apply Kd.Q_alloc | apply Kd.Q_drewN | apply Kd.Q_drew)); exact HO530.out) hb)
              have n1_ := Aside0.mk (Kd.S_mono (Kd.S_told (Kd.S_told (Kd.S_old (by (with_reducible repeat (first | apply Kd.S_alloc | apply Kd.S_drewN | apply Kd.S_drew)); exact HO535.out) hb) (Kd.S_base ho0)) (Kd.S_base ho1)) (fun _ h_ => h_.1))
              have n2_ := Aside0.mk (Kd.S_mono (Kd.S_told (Kd.S_told (Kd.S_old (by (with_reducible repeat (first | apply Kd.S_alloc | apply Kd.S_drewN | apply Kd.S_drew)); exact HO538.out) hb) (Kd.S_base ho0)) (Kd.S_base ho1)) (fun _ h_ => h_.1))
              have n3_ := Aside0.mk (Kd.S_lower (Kd.S_new' (Kd.S_new' (Kd.S_new' ho0 (Kd.Q_lt (by (with_reducible repeat (first | apply Kd.Q_alloc | apply Kd.Q_drewN | apply Kd.Q_drew)); exact HO530.out))) (Kd.S_lt (by (with_reducible repeat (first | apply Kd.S_alloc | apply Kd.S_drewN | apply Kd.S_drew)); exact HO535.out))) (Kd.S_lt (by (with_reducible repeat (first | apply Kd.S_alloc | apply Kd.S_drewN | apply Kd.S_drew)); exact HO538.out))) (below_size (by repeat (first | (with_reducible first | exact HB.out | apply below_alloc | apply pw_below_drewN | apply below_drew1 | refine below_set ?_ GE539.out) | exact HB.out))))
              have n4_ := Aside0.mk (Kd.S_lower (Kd.S_new' (Kd.S_new' (Kd.S_new' ho1 (Kd.Q_lt (by (with_reducible repeat (first | apply Kd.Q_alloc | apply Kd.Q_drewN | apply Kd.Q_drew)); exact HO530.out))) (Kd.S_lt (by (with_reducible repeat (first | apply Kd.S_alloc | apply Kd.S_drewN | apply Kd.S_drew)); exact HO535.out))) (Kd.S_lt (by (with_reducible repeat (first | apply Kd.S_alloc | apply Kd.S_drewN | apply Kd.S_drew)); exact HO538.out))) (below_size (by repeat (first | (with_reducible first | exact HB.out | apply below_alloc | apply pw_below_drewN | apply below_drew1 | refine below_set ?_ GE539.out) | exact HB.out))))
              have n5_ := Aside0.mk (blk_below (g := gb539) (o := .cells #[.int .i64 t531, .int .i64 t532, .slice Ao60 t533.length co60, .slice Ao61 t536.length co61] 27 (0, 0)) (by (with_reducible repeat (first | refine blk_drewN ?_ _ | refine blk_drew ?_ | refine blk_alloc ?_ _)); exact BK539.out) hb)
              have n6_ := Aside0.mk (below_step (by repeat (first | (with_reducible first | exact HB.out | apply below_alloc | apply pw_below_drewN | apply below_drew1 | refine below_set ?_ GE539.out) | exact HB.out)) hb)
              clear HO530
              clear HO535
              clear HO538
              clear BK539
              clear HB
              have HO530 := n0_
              have HO535 := n1_
              have HO538 := n2_
              have HO544 := n3_
              have HO547 := n4_
              have BK539 := n5_
              have HB := n6_
              clear n0_ n1_ n2_ n3_ n4_ n5_ n6_
              (try clear hb)
              (try clear hb2)
              (try clear hk)
              (try clear hi)
              (try clear ho0)
              (try clear ho1)
              obtain ⟨Ao65, co65, eo65⟩ := Kd.S_slice HO544.out
              (first | subst eo65 | (injection eo65 with f1_ f2_ f3_; have f4_ := f1_.symm; have f5_ := f3_.symm; clear f1_ f2_ f3_; subst f4_; subst f5_))
              obtain ⟨Ao66, co66, eo66⟩ := Kd.S_slice HO547.out
              (first | subst eo66 | (injection eo66 with f1_ f2_ f3_; have f4_ := f1_.symm; have f5_ := f3_.symm; clear f1_ f2_ f3_; subst f4_; subst f5_))
              refine hK.out _ _ ⟨(blk_cell BK539.out 0).trans rfl, (blk_cell BK539.out 1).trans rfl, (blk_cell BK539.out 2).trans rfl, (blk_cell BK539.out 3).trans rfl⟩ (fun hHeld => ?_)
              clear hK K
              refine norm_ (a' := ?_) ?_ ?_
              rotate_left
              · show Act.put _ (some 24) _ = _
                simp only [Act.put, List.setIfInBounds_toArray, List.set_cons_zero, List.set_cons_succ, i64_w, i32_w]
                rfl
              refine one_ (i := 5) (N := some 25) #[true, true, true, true, true, true, false] rfl rfl (by kernel_rfl) (by decide) (fun K hK => ?_)
              refine goes_ Try.func41 (by kernel_rfl) rfl #[.agg #[.int .i64 t531, .int .i64 t532, .slice Ao60 t533.length co60, .slice Ao61 t536.length co61], .agg #[.int .i64 t540, .int .i64 t541, .slice Ao65 t542.length co65, .slice Ao66 t545.length co66]] (by rfl) rfl rfl (by (try simp only [List.map_toArray, List.map_cons, List.map_nil]); first | done | rfl | (simp only [List.length_drop, List.length_take]; rfl)) ?_
              with_reducible refine (laws_sameLoop.calls k t531 t532 _ _ t533 _ _ t536 t540 t541 _ _ t542 _ _ t545 true _ ?side1 ?side2 ?side3 ?side4 ?side5 ?side6 ?side7 ?side8 A6.out).mono ?_
              (case side1 => repeat (first | exact (Kd.S_reads' HO535.out).2.2 | (with_reducible refine Kd.C_alloc ?_ _) | (with_reducible refine Kd.C_drewN ?_ _) | (with_reducible refine Kd.C_drew ?_)))
              (case side2 => exact (Kd.S_reads' HO535.out).2.1)
              (case side3 => repeat (first | exact (Kd.S_reads' HO538.out).2.2 | (with_reducible refine Kd.C_alloc ?_ _) | (with_reducible refine Kd.C_drewN ?_ _) | (with_reducible refine Kd.C_drew ?_)))
              (case side4 => exact (Kd.S_reads' HO538.out).2.1)
              (case side5 => repeat (first | exact (Kd.S_reads' HO544.out).2.2 | (with_reducible refine Kd.C_alloc ?_ _) | (with_reducible refine Kd.C_drewN ?_ _) | (with_reducible refine Kd.C_drew ?_)))
              (case side6 => exact (Kd.S_reads' HO544.out).2.1)
              (case side7 => repeat (first | exact (Kd.S_reads' HO547.out).2.2 | (with_reducible refine Kd.C_alloc ?_ _) | (with_reducible refine Kd.C_drewN ?_ _) | (with_reducible refine Kd.C_drew ?_)))
              (case side8 => exact (Kd.S_reads' HO547.out).2.1)
              rintro e w67 ⟨rfl, hb⟩
              refine ⟨_, rfl, ?_⟩
              have n0_ := Aside0.mk (Kd.Q_below (by (with_reducible repeat (first | apply Kd.Q_alloc | apply Kd.Q_drewN | apply Kd.Q_drew)); exact HO530.out) hb)
              have n1_ := Aside0.mk (Kd.S_below (by (with_reducible repeat (first | apply Kd.S_alloc | apply Kd.S_drewN | apply Kd.S_drew)); exact HO535.out) hb)
              have n2_ := Aside0.mk (Kd.S_below (by (with_reducible repeat (first | apply Kd.S_alloc | apply Kd.S_drewN | apply Kd.S_drew)); exact HO538.out) hb)
              have n3_ := Aside0.mk (Kd.S_below (by (with_reducible repeat (first | apply Kd.S_alloc | apply Kd.S_drewN | apply Kd.S_drew)); exact HO544.out) hb)
              have n4_ := Aside0.mk (Kd.S_below (by (with_reducible repeat (first | apply Kd.S_alloc | apply Kd.S_drewN | apply Kd.S_drew)); exact HO547.out) hb)
              have n5_ := Aside0.mk (blk_below (g := gb539) (o := .cells #[.int .i64 t531, .int .i64 t532, .slice Ao60 t533.length co60, .slice Ao61 t536.length co61] 27 (0, 0)) (by (with_reducible repeat (first | refine blk_drewN ?_ _ | refine blk_drew ?_ | refine blk_alloc ?_ _)); exact BK539.out) hb)
              have n6_ := Aside0.mk (below_step (by repeat (first | (with_reducible first | exact HB.out | apply below_alloc | apply pw_below_drewN | apply below_drew1 | refine below_set ?_ GE539.out) | exact HB.out)) hb)
              clear HO530
              clear HO535
              clear HO538
              clear HO544
              clear HO547
              clear BK539
              clear HB
              have HO530 := n0_
              have HO535 := n1_
              have HO538 := n2_
              have HO544 := n3_
              have HO547 := n4_
              have BK539 := n5_
              have HB := n6_
              clear n0_ n1_ n2_ n3_ n4_ n5_ n6_
              (try clear hb)
              (try clear hb2)
              (try clear hk)
              (try clear hi)
              refine hK.out _ _ ⟨(blk_cell BK539.out 0).trans rfl, (blk_cell BK539.out 1).trans rfl, (blk_cell BK539.out 2).trans rfl, (blk_cell BK539.out 3).trans rfl⟩ (fun hHeld => ?_)
              clear hK K
              refine norm_ (a' := ?_) ?_ ?_
              rotate_left
              · show Act.put _ (some 25) _ = _
                simp only [Act.put, List.setIfInBounds_toArray, List.set_cons_zero, List.set_cons_succ, i64_w, i32_w]
                rfl
              refine pure_ (i := 6) (N := some 26) (v := ?_) (a' := ?_) #[true, true, true, true, true, true, true] rfl rfl (by kernel_rfl) (fun _ _ _ h => h) (Or.inl ⟨by rfl, ?_⟩) ?_ ?_
              rotate_left
              · intro w'
                go_simp
                with_reducible rfl
              rotate_left
              · simp only [Act.put, List.setIfInBounds_toArray, List.set_cons_zero, List.set_cons_succ, i64_w, i32_w]
                rfl
              refine done_ (by kernel_rfl) ?_
              have hcz68_0 : w67.cell? ⟨gb539, 0, none⟩ = some (.int .i64 t531) := (blk_cell BK539.out 0).trans rfl
              have hcz68_1 : w67.cell? ⟨gb539, 1, none⟩ = some (.int .i64 t532) := (blk_cell BK539.out 1).trans rfl
              have hcz68_2 : w67.cell? ⟨gb539, 2, none⟩ = some (.slice Ao60 t533.length co60) := (blk_cell BK539.out 2).trans rfl
              have hcz68_3 : w67.cell? ⟨gb539, 3, none⟩ = some (.slice Ao61 t536.length co61) := (blk_cell BK539.out 3).trans rfl
              have hfz68_0 := blk_frozen BK539.out 0
              have hfz68_1 := blk_frozen BK539.out 1
              have hfz68_2 := blk_frozen BK539.out 2
              have hfz68_3 := blk_frozen BK539.out 3
              try go_wp2_with (first | ((with_reducible refine gate_callee (f := 43) rfl ?_); refine goesL_ (some 32) rfl rfl Try.func43 (by kernel_rfl) rfl #[.agg #[.int .i64 t531, .int .i64 t532, .slice Ao60 t533.length co60, .slice Ao61 t536.length co61]] rfl (by (try simp only [List.map_toArray, List.map_cons, List.map_nil]); first | done | rfl | (simp only [List.length_drop, List.length_take]; rfl)) ?_; (with_reducible refine (impl_LoopValid.calls k t531 t532 _ _ t533 _ _ t536 true _ ?side1 ?side2 ?side3 ?side4 A25.out).mono ?_); (case side1 => repeat (first | exact (Kd.S_reads' HO535.out).2.2 | (with_reducible refine Kd.C_alloc ?_ _) | (with_reducible refine Kd.C_drewN ?_ _) | (with_reducible refine Kd.C_drew ?_))); (case side2 => exact (Kd.S_reads' HO535.out).2.1); (case side3 => repeat (first | exact (Kd.S_reads' HO538.out).2.2 | (with_reducible refine Kd.C_alloc ?_ _) | (with_reducible refine Kd.C_drewN ?_ _) | (with_reducible refine Kd.C_drew ?_))); (case side4 => exact (Kd.S_reads' HO538.out).2.1); rintro e w69 ⟨rfl, hb⟩; refine ⟨_, rfl, ?_⟩; have n0_ := Aside0.mk (Kd.Q_below (by (with_reducible repeat (first | apply Kd.Q_alloc | apply Kd.Q_drewN | apply Kd.Q_drew)); exact HO530.out) hb); have n1_ := Aside0.mk (Kd.S_below (by (with_reducible repeat (first | apply Kd.S_alloc | apply Kd.S_drewN | apply Kd.S_drew)); exact HO535.out) hb); have n2_ := Aside0.mk (Kd.S_below (by (with_reducible repeat (first | apply Kd.S_alloc | apply Kd.S_drewN | apply Kd.S_drew)); exact HO538.out) hb); have n3_ := Aside0.mk (Kd.S_below (by (with_reducible repeat (first | apply Kd.S_alloc | apply Kd.S_drewN | apply Kd.S_drew)); exact HO544.out) hb); have n4_ := Aside0.mk (Kd.S_below (by (with_reducible repeat (first | apply Kd.S_alloc | apply Kd.S_drewN | apply Kd.S_drew)); exact HO547.out) hb); have n5_ := Aside0.mk (blk_below (g := gb539) (o := .cells #[.int .i64 t531, .int .i64 t532, .slice Ao60 t533.length co60, .slice Ao61 t536.length co61] 27 (0, 0)) (by (with_reducible repeat (first | refine blk_drewN ?_ _ | refine blk_drew ?_ | refine blk_alloc ?_ _)); exact BK539.out) hb); have n6_ := Aside0.mk (below_step (by repeat (first | (with_reducible first | exact HB.out | apply below_alloc | apply pw_below_drewN | apply below_drew1 | refine below_set ?_ GE539.out) | exact HB.out)) hb); clear HO530; clear HO535; clear HO538; clear HO544; clear HO547; clear BK539; clear HB; have HO530 := n0_; have HO535 := n1_; have HO538 := n2_; have HO544 := n3_; have HO547 := n4_; have BK539 := n5_; have HB := n6_; clear n0_ n1_ n2_ n3_ n4_ n5_ n6_; (try clear hb); (try clear hb2); (try clear hk); (try clear hi); have hcz70_0 : w69.cell? ⟨gb539, 0, none⟩ = some (.int .i64 t531) := (blk_cell BK539.out 0).trans rfl; have hcz70_1 : w69.cell? ⟨gb539, 1, none⟩ = some (.int .i64 t532) := (blk_cell BK539.out 1).trans rfl; have hcz70_2 : w69.cell? ⟨gb539, 2, none⟩ = some (.slice Ao60 t533.length co60) := (blk_cell BK539.out 2).trans rfl; have hcz70_3 : w69.cell? ⟨gb539, 3, none⟩ = some (.slice Ao61 t536.length co61) := (blk_cell BK539.out 3).trans rfl; have hfz70_0 := blk_frozen BK539.out 0; have hfz70_1 := blk_frozen BK539.out 1; have hfz70_2 := blk_frozen BK539.out 2; have hfz70_3 := blk_frozen BK539.out 3) | (go_at_call 21; (with_reducible refine (impl_LoopLength.calls k t531 t532 _ _ t533 _ _ t536 t551 _ ?side1 ?side2 ?side3 ?side4 A27.out).mono ?_); (case side1 => repeat (first | exact (Kd.S_reads' HO535.out).2.2 | (with_reducible refine Kd.C_alloc ?_ _) | (with_reducible refine Kd.C_drewN ?_ _) | (with_reducible refine Kd.C_drew ?_))); (case side2 => exact (Kd.S_reads' HO535.out).2.1); (case side3 => repeat (first | exact (Kd.S_reads' HO538.out).2.2 | (with_reducible refine Kd.C_alloc ?_ _) | (with_reducible refine Kd.C_drewN ?_ _) | (with_reducible refine Kd.C_drew ?_))); (case side4 => exact (Kd.S_reads' HO538.out).2.1); rintro e w71 ⟨rfl, hb⟩; have n0_ := Aside0.mk (Kd.Q_below (by (with_reducible repeat (first | apply Kd.Q_alloc | apply Kd.Q_drewN | apply Kd.Q_drew)); exact HO530.out) hb); have n1_ := Aside0.mk (Kd.S_below (by (with_reducible repeat (first | apply Kd.S_alloc | apply Kd.S_drewN | apply Kd.S_drew)); exact HO535.out) hb); have n2_ := Aside0.mk (Kd.S_below (by (with_reducible repeat (first | apply Kd.S_alloc | apply Kd.S_drewN | apply Kd.S_drew)); exact HO538.out) hb); have n3_ := Aside0.mk (Kd.S_below (by (with_reducible repeat (first | apply Kd.S_alloc | apply Kd.S_drewN | apply Kd.S_drew)); exact HO544.out) hb); have n4_ := Aside0.mk (Kd.S_below (by (with_reducible repeat (first | apply Kd.S_alloc | apply Kd.S_drewN | apply Kd.S_drew)); exact HO547.out) hb); have n5_ := Aside0.mk (blk_below (g := gb539) (o := .cells #[.int .i64 t531, .int .i64 t532, .slice Ao60 t533.length co60, .slice Ao61 t536.length co61] 27 (0, 0)) (by (with_reducible repeat (first | refine blk_drewN ?_ _ | refine blk_drew ?_ | refine blk_alloc ?_ _)); exact BK539.out) hb); have n6_ := Aside0.mk (below_step (by repeat (first | (with_reducible first | exact HB.out | apply below_alloc | apply pw_below_drewN | apply below_drew1 | refine below_set ?_ GE539.out) | exact HB.out)) hb); clear HO530; clear HO535; clear HO538; clear HO544; clear HO547; clear BK539; clear HB; have HO530 := n0_; have HO535 := n1_; have HO538 := n2_; have HO544 := n3_; have HO547 := n4_; have BK539 := n5_; have HB := n6_; clear n0_ n1_ n2_ n3_ n4_ n5_ n6_; (try clear hb); (try clear hb2); (try clear hk); (try clear hi); have hcz72_0 : w71.cell? ⟨gb539, 0, none⟩ = some (.int .i64 t531) := (blk_cell BK539.out 0).trans rfl; have hcz72_1 : w71.cell? ⟨gb539, 1, none⟩ = some (.int .i64 t532) := (blk_cell BK539.out 1).trans rfl; have hcz72_2 : w71.cell? ⟨gb539, 2, none⟩ = some (.slice Ao60 t533.length co60) := (blk_cell BK539.out 2).trans rfl; have hcz72_3 : w71.cell? ⟨gb539, 3, none⟩ = some (.slice Ao61 t536.length co61) := (blk_cell BK539.out 3).trans rfl; have hfz72_0 := blk_frozen BK539.out 0; have hfz72_1 := blk_frozen BK539.out 1; have hfz72_2 := blk_frozen BK539.out 2; have hfz72_3 := blk_frozen BK539.out 3) | (go_at_call 38; (with_reducible refine (impl_LoopClosed.calls k t531 t532 _ _ t533 _ _ t536 false _ ?side1 ?side2 ?side3 ?side4 A29.out).mono ?_); (case side1 => repeat (first | exact (Kd.S_reads' HO535.out).2.2 | (with_reducible refine Kd.C_alloc ?_ _) | (with_reducible refine Kd.C_drewN ?_ _) | (with_reducible refine Kd.C_drew ?_))); (case side2 => exact (Kd.S_reads' HO535.out).2.1); (case side3 => repeat (first | exact (Kd.S_reads' HO538.out).2.2 | (with_reducible refine Kd.C_alloc ?_ _) | (with_reducible refine Kd.C_drewN ?_ _) | (with_reducible refine Kd.C_drew ?_))); (case side4 => exact (Kd.S_reads' HO538.out).2.1); rintro e w73 ⟨rfl, hb⟩; have n0_ := Aside0.mk (Kd.Q_below (by (with_reducible repeat (first | apply Kd.Q_alloc | apply Kd.Q_drewN | apply Kd.Q_drew)); exact HO530.out) hb); have n1_ := Aside0.mk (Kd.S_below (by (with_reducible repeat (first | apply Kd.S_alloc | apply Kd.S_drewN | apply Kd.S_drew)); exact HO535.out) hb); have n2_ := Aside0.mk (Kd.S_below (by (with_reducible repeat (first | apply Kd.S_alloc | apply Kd.S_drewN | apply Kd.S_drew)); exact HO538.out) hb); have n3_ := Aside0.mk (Kd.S_below (by (with_reducible repeat (first | apply Kd.S_alloc | apply Kd.S_drewN | apply Kd.S_drew)); exact HO544.out) hb); have n4_ := Aside0.mk (Kd.S_below (by (with_reducible repeat (first | apply Kd.S_alloc | apply Kd.S_drewN | apply Kd.S_drew)); exact HO547.out) hb); have n5_ := Aside0.mk (blk_below (g := gb539) (o := .cells #[.int .i64 t531, .int .i64 t532, .slice Ao60 t533.length co60, .slice Ao61 t536.length co61] 27 (0, 0)) (by (with_reducible repeat (first | refine blk_drewN ?_ _ | refine blk_drew ?_ | refine blk_alloc ?_ _)); exact BK539.out) hb); have n6_ := Aside0.mk (below_step (by repeat (first | (with_reducible first | exact HB.out | apply below_alloc | apply pw_below_drewN | apply below_drew1 | refine below_set ?_ GE539.out) | exact HB.out)) hb); clear HO530; clear HO535; clear HO538; clear HO544; clear HO547; clear BK539; clear HB; have HO530 := n0_; have HO535 := n1_; have HO538 := n2_; have HO544 := n3_; have HO547 := n4_; have BK539 := n5_; have HB := n6_; clear n0_ n1_ n2_ n3_ n4_ n5_ n6_; (try clear hb); (try clear hb2); (try clear hk); (try clear hi)))
              go_ret
              exact ⟨by first | rfl | (simp [errW_none, errW_some] <;> rfl) | (simp [*, errW_none, errW_some] <;> rfl), by repeat (first | (with_reducible first | exact HB.out | apply below_alloc | apply pw_below_drewN | apply below_drew1 | refine below_set ?_ GE539.out) | exact HB.out)⟩
          · rw [if_neg c28] at H
            have c28b0 : ((Int.tmod t551 2) == 0) = false := beq_eq_false_iff_ne.mpr c28
            have c28b1 : ((Int.tmod t551 2) != 0) = true := bne_iff_ne.mpr c28
            obtain rfl := Option.some.inj H
            go_enter Try.func8, Try.ntmps8
            try go_wp2_with (first | ((with_reducible refine gate_callee (f := 39) rfl ?_); refine goesL_ (some 12) rfl rfl Try.func39 (by kernel_rfl) rfl #[.slice A0 l0.length c0] rfl (by (try simp only [List.map_toArray, List.map_cons, List.map_nil]); first | done | rfl | (simp only [List.length_drop, List.length_take]; rfl)) ?_; (with_reducible refine (spec_DrawLoopAround.calls k _ _ l0 t526 t527 t528 _ ?side1 ?side2 A3.out).mono ?_); (case side1 => repeat (first | exact HR0.out | (with_reducible refine Kd.C_alloc ?_ _) | (with_reducible refine Kd.C_drewN ?_ _) | (with_reducible refine Kd.C_drew ?_))); (case side2 => exact HC0.out); rintro e w74 ⟨v529, rfl, ho0, hb⟩; refine ⟨_, rfl, ?_⟩; have n0_ := Aside0.mk (Kd.Q_lower ho0 (below_size (by repeat (first | (with_reducible first | exact HB.out | apply below_alloc | apply pw_below_drewN | apply below_drew1) | exact HB.out)))); have n1_ := Aside0.mk (below_step (by repeat (first | (with_reducible first | exact HB.out | apply below_alloc | apply pw_below_drewN | apply below_drew1) | exact HB.out)) hb); clear HB; have HO530 := n0_; have HB := n1_; clear n0_ n1_; (try clear hb); (try clear hb2); (try clear hk); (try clear hi); (try clear ho0); obtain ⟨Ao75, co75, eo75, _⟩ := Kd.Q_slice HO530.out; subst eo75) | ((with_reducible refine gate_callee (f := 40) rfl ?_); refine goesL_ (some 19) rfl rfl Try.func40 (by kernel_rfl) rfl #[.int .i64 t526, .int .i64 t527, .slice Ao75 t528.length co75] rfl (by (try simp only [List.map_toArray, List.map_cons, List.map_nil]); first | done | rfl | (simp only [List.length_drop, List.length_take]; rfl)) ?_; (with_reducible refine (impl_LoopAround.calls k t526 t527 _ _ t528 t531 t532 t533 t536 _ ?side1 ?side2 A4.out).mono ?_); (case side1 => repeat (first | exact (Kd.Q_reads' HO530.out).2.2 | (with_reducible refine Kd.C_alloc ?_ _) | (with_reducible refine Kd.C_drewN ?_ _) | (with_reducible refine Kd.C_drew ?_))); (case side2 => exact (Kd.Q_reads' HO530.out).2.1); rintro e w76 ⟨v534, v537, rfl, ho0, ho1, hb⟩; refine ⟨_, rfl, ?_⟩; have n0_ := Aside0.mk (Kd.Q_below (by (with_reducible repeat (first | apply Kd.Q_alloc | apply Kd.Q_drewN | apply Kd.Q_drew)); exact HO530.out) hb); have n1_ := Aside0.mk (Kd.S_lower (Kd.S_new' ho0 (Kd.Q_lt (by (with_reducible repeat (first | apply Kd.Q_alloc | apply Kd.Q_drewN | apply Kd.Q_drew)); exact HO530.out))) (below_size (by repeat (first | (with_reducible first | exact HB.out | apply below_alloc | apply pw_below_drewN | apply below_drew1) | exact HB.out)))); have n2_ := Aside0.mk (Kd.S_lower (Kd.S_new' ho1 (Kd.Q_lt (by (with_reducible repeat (first | apply Kd.Q_alloc | apply Kd.Q_drewN | apply Kd.Q_drew)); exact HO530.out))) (below_size (by repeat (first | (with_reducible first | exact HB.out | apply below_alloc | apply pw_below_drewN | apply below_drew1) | exact HB.out)))); have n3_ := Aside0.mk (below_step (by repeat (first | (with_reducible first | exact HB.out | apply below_alloc | apply pw_below_drewN | apply below_drew1) | exact HB.out)) hb); clear HO530; clear HB; have HO530 := n0_; have HO535 := n1_; have HO538 := n2_; have HB := n3_; clear n0_ n1_ n2_ n3_; (try clear hb); (try clear hb2); (try clear hk); (try clear hi); (try clear ho0); (try clear ho1)) | ((with_reducible refine gate_dst (N := 6) rfl ?_); refine box_event ?hg (N := 6) ?hd (cs := #[.int .i64 0, .int .i64 0, .slice none 0 0, .slice none 0 0]) (t := 27) ?hr ?_; (case hd => rfl); (case hg => rfl); (case hr => first | (go_simp; done) | (go_simp; rfl)); intro gb539 hg w77 hbox hb; have n0_ := Aside0.mk (Kd.Q_below (by (with_reducible repeat (first | apply Kd.Q_alloc | apply Kd.Q_drewN | apply Kd.Q_drew)); exact HO530.out) hb); have n1_ := Aside0.mk (Kd.S_below (by (with_reducible repeat (first | apply Kd.S_alloc | apply Kd.S_drewN | apply Kd.S_drew)); exact HO535.out) hb); have n2_ := Aside0.mk (Kd.S_below (by (with_reducible repeat (first | apply Kd.S_alloc | apply Kd.S_drewN | apply Kd.S_drew)); exact HO538.out) hb); have n3_ := Aside0.mk (below_step (by repeat (first | (with_reducible first | exact HB.out | apply below_alloc | apply pw_below_drewN | apply below_drew1) | exact HB.out)) hb); have n4_ := Aside0.mk (hbox); have n5_ := Aside0.mk ((by rw [hg]; exact (below_size (by repeat (first | (with_reducible first | exact HB.out | apply below_alloc | apply pw_below_drewN | apply below_drew1) | exact HB.out))) : w.heap.size ≤ gb539)); have n6_ := Aside0.mk ((by rw [hg]; exact (below_size (by repeat (first | (with_reducible first | exact HB.out | apply below_alloc | apply pw_below_drewN | apply below_drew1) | exact HB.out))) : w.heap.size ≤ gb539)); clear HO530; clear HO535; clear HO538; clear HB; have HO530 := n0_; have HO535 := n1_; have HO538 := n2_; have HB := n3_; have BK539 := n4_; have GW539 := n5_; have GE539 := n6_; clear n0_ n1_ n2_ n3_ n4_ n5_ n6_; clear hb hbox hg; have hcz78_0 : w77.cell? ⟨gb539, 0, none⟩ = some (.int .i64 0) := (blk_cell BK539.out 0).trans rfl; have hcz78_1 : w77.cell? ⟨gb539, 1, none⟩ = some (.int .i64 0) := (blk_cell BK539.out 1).trans rfl; have hcz78_2 : w77.cell? ⟨gb539, 2, none⟩ = some (.slice none 0 0) := (blk_cell BK539.out 2).trans rfl; have hcz78_3 : w77.cell? ⟨gb539, 3, none⟩ = some (.slice none 0 0) := (blk_cell BK539.out 3).trans rfl; have hfz78_0 := blk_frozen BK539.out 0; have hfz78_1 := blk_frozen BK539.out 1; have hfz78_2 := blk_frozen BK539.out 2; have hfz78_3 := blk_frozen BK539.out 3; obtain ⟨Ao79, co79, eo79⟩ := Kd.S_slice HO535.out; subst eo79; obtain ⟨Ao80, co80, eo80⟩ := Kd.S_slice HO538.out; subst eo80))
            have n0_ : Aside0 (Kd.Q Kd.bool 4 ((((w77.setCell ⟨gb539, 0, none⟩ (.int .i64 t531)).setCell ⟨gb539, 1, none⟩ (.int .i64 t532)).setCell ⟨gb539, 2, none⟩ (.slice Ao79 t533.length co79)).setCell ⟨gb539, 3, none⟩ (.slice Ao80 t536.length co80)) w.heap.size (fun _ => True) (.slice Ao75 t528.length co75) t528) := ⟨by (with_reducible repeat (first | apply Kd.Q_alloc | apply Kd.Q_drewN | apply Kd.Q_drew)); exact Kd.Q_mono (Kd.Q_far (p := ⟨gb539, 3, none⟩) (Kd.Q_far (p := ⟨gb539, 2, none⟩) (Kd.Q_far (p := ⟨gb539, 1, none⟩) (Kd.Q_far (p := ⟨gb539, 0, none⟩) (Kd.Q_types HO530.out BK539.out (by decide)) (fun _ hk => hk.2) (.int .i64 t531)) (fun _ hk => hk.2) (.int .i64 t532)) (fun _ hk => hk.2) (.slice Ao79 t533.length co79)) (fun _ hk => hk.2) (.slice Ao80 t536.length co80)) (fun _ hk => trivial)⟩
            have n1_ : Aside0 (Kd.S (Kd.slice 4 Kd.bool) 45 ((((w77.setCell ⟨gb539, 0, none⟩ (.int .i64 t531)).setCell ⟨gb539, 1, none⟩ (.int .i64 t532)).setCell ⟨gb539, 2, none⟩ (.slice Ao79 t533.length co79)).setCell ⟨gb539, 3, none⟩ (.slice Ao80 t536.length co80)) w.heap.size (fun k_ => some k_ ≠ (.slice Ao75 t528.length co75 : Value).ownBlock ∧ some k_ ≠ (.slice Ao80 t536.length co80 : Value).ownBlock) (.slice Ao79 t533.length co79) t533) := ⟨by (with_reducible repeat (first | apply Kd.S_alloc | apply Kd.S_drewN | apply Kd.S_drew)); exact Kd.S_mono (Kd.S_far (p := ⟨gb539, 3, none⟩) (Kd.S_far (p := ⟨gb539, 2, none⟩) (Kd.S_far (p := ⟨gb539, 1, none⟩) (Kd.S_far (p := ⟨gb539, 0, none⟩) (Kd.S_types HO535.out BK539.out (by decide)) (fun _ hk => hk.2) (.int .i64 t531)) (fun _ hk => hk.2) (.int .i64 t532)) (fun _ hk => hk.2) (.slice Ao79 t533.length co79)) (fun _ hk => hk.2) (.slice Ao80 t536.length co80)) (fun _ hk => ⟨hk.1.2, hk.1.1⟩)⟩
            have n2_ : Aside0 (Kd.S (Kd.slice 4 Kd.bool) 45 ((((w77.setCell ⟨gb539, 0, none⟩ (.int .i64 t531)).setCell ⟨gb539, 1, none⟩ (.int .i64 t532)).setCell ⟨gb539, 2, none⟩ (.slice Ao79 t533.length co79)).setCell ⟨gb539, 3, none⟩ (.slice Ao80 t536.length co80)) w.heap.size (fun k_ => some k_ ≠ (.slice Ao75 t528.length co75 : Value).ownBlock ∧ some k_ ≠ (.slice Ao79 t533.length co79 : Value).ownBlock) (.slice Ao80 t536.length co80) t536) := ⟨by (with_reducible repeat (first | apply Kd.S_alloc | apply Kd.S_drewN | apply Kd.S_drew)); exact Kd.S_mono (Kd.S_far (p := ⟨gb539, 3, none⟩) (Kd.S_far (p := ⟨gb539, 2, none⟩) (Kd.S_far (p := ⟨gb539, 1, none⟩) (Kd.S_far (p := ⟨gb539, 0, none⟩) (Kd.S_types HO538.out BK539.out (by decide)) (fun _ hk => hk.2) (.int .i64 t531)) (fun _ hk => hk.2) (.int .i64 t532)) (fun _ hk => hk.2) (.slice Ao79 t533.length co79)) (fun _ hk => hk.2) (.slice Ao80 t536.length co80)) (fun _ hk => ⟨hk.1.2, hk.1.1⟩)⟩
            have n3_ : Aside0 (((((w77.setCell ⟨gb539, 0, none⟩ (.int .i64 t531)).setCell ⟨gb539, 1, none⟩ (.int .i64 t532)).setCell ⟨gb539, 2, none⟩ (.slice Ao79 t533.length co79)).setCell ⟨gb539, 3, none⟩ (.slice Ao80 t536.length co80)).heap[gb539]? = some (.cells #[.int .i64 t531, .int .i64 t532, .slice Ao79 t533.length co79, .slice Ao80 t536.length co80] 27 (0, 0))) := ⟨by (with_reducible repeat (first | refine blk_drewN ?_ _ | refine blk_drew ?_ | refine blk_alloc ?_ _)); refine blk_put (cs := #[.int .i64 t531, .int .i64 t532, .slice Ao79 t533.length co79, .slice none 0 0]) ?_ 3 _ rfl; (with_reducible repeat (first | refine blk_drewN ?_ _ | refine blk_drew ?_ | refine blk_alloc ?_ _)); refine blk_put (cs := #[.int .i64 t531, .int .i64 t532, .slice none 0 0, .slice none 0 0]) ?_ 2 _ rfl; (with_reducible repeat (first | refine blk_drewN ?_ _ | refine blk_drew ?_ | refine blk_alloc ?_ _)); refine blk_put (cs := #[.int .i64 t531, .int .i64 0, .slice none 0 0, .slice none 0 0]) ?_ 1 _ rfl; (with_reducible repeat (first | refine blk_drewN ?_ _ | refine blk_drew ?_ | refine blk_alloc ?_ _)); refine blk_put (cs := #[.int .i64 0, .int .i64 0, .slice none 0 0, .slice none 0 0]) ?_ 0 _ rfl; (with_reducible repeat (first | refine blk_drewN ?_ _ | refine blk_drew ?_ | refine blk_alloc ?_ _)); exact BK539.out⟩
            have n4_ : Aside0 (Below w.heap.size w ((((w77.setCell ⟨gb539, 0, none⟩ (.int .i64 t531)).setCell ⟨gb539, 1, none⟩ (.int .i64 t532)).setCell ⟨gb539, 2, none⟩ (.slice Ao79 t533.length co79)).setCell ⟨gb539, 3, none⟩ (.slice Ao80 t536.length co80))) := ⟨by repeat (first | (with_reducible first | exact HB.out | apply below_alloc | apply pw_below_drewN | apply below_drew1 | refine below_set ?_ GE539.out) | exact HB.out)⟩
            (try clear HO530)
            (try clear HO535)
            (try clear HO538)
            (try clear BK539)
            (try clear HB)
            generalize ((((w77.setCell ⟨gb539, 0, none⟩ (.int .i64 t531)).setCell ⟨gb539, 1, none⟩ (.int .i64 t532)).setCell ⟨gb539, 2, none⟩ (.slice Ao79 t533.length co79)).setCell ⟨gb539, 3, none⟩ (.slice Ao80 t536.length co80)) = w81 at n0_ n1_ n2_ n3_ n4_ ⊢
            have HO530 := n0_
            have HO535 := n1_
            have HO538 := n2_
            have BK539 := n3_
            have HB := n4_
            clear n0_ n1_ n2_ n3_ n4_
            have n0_ := Aside0.mk (Kd.Q_drew HO530.out)
            have n1_ := Aside0.mk (Kd.S_drew HO535.out)
            have n2_ := Aside0.mk (Kd.S_drew HO538.out)
            have n3_ := Aside0.mk (blk_drew BK539.out)
            have n4_ := Aside0.mk (below_drew1 HB.out)
            clear HO530
            clear HO535
            clear HO538
            clear BK539
            clear HB
            have HO530 := n0_
            have HO535 := n1_
            have HO538 := n2_
            have BK539 := n3_
            have HB := n4_
            clear n0_ n1_ n2_ n3_ n4_
            refine start_ (n := 7) (S := fun w' => w'.cell? ⟨gb539, 0, none⟩ = some (.int .i64 t531) ∧ w'.cell? ⟨gb539, 1, none⟩ = some (.int .i64 t532) ∧ w'.cell? ⟨gb539, 2, none⟩ = some (.slice Ao79 t533.length co79) ∧ w'.cell? ⟨gb539, 3, none⟩ = some (.slice Ao80 t536.length co80)) (ds := []) #[false, false, false, false, false, false, false] (by kernel_rfl) rfl rfl ⟨(blk_cell BK539.out 0).trans rfl, (blk_cell BK539.out 1).trans rfl, (blk_cell BK539.out 2).trans rfl, (blk_cell BK539.out 3).trans rfl⟩ (fun hHeld => ?_)
            generalize w81.drew = w82 at HO530 HO535 HO538 BK539 HB hHeld ⊢
            refine pure_ (i := 1) (N := some 21) (v := ?_) (a' := ?_) #[false, true, false, false, false, false, false] rfl rfl (by kernel_rfl) (fun _ _ _ h => h) (Or.inl ⟨by rfl, ?_⟩) ?_ ?_
            rotate_left
            · intro w'
              go_simp
              with_reducible rfl
            rotate_left
            · simp only [Act.put, List.setIfInBounds_toArray, List.set_cons_zero, List.set_cons_succ, i64_w, i32_w]
              rfl
            refine pure_ (i := 2) (N := some 22) (v := ?_) (a' := ?_) #[false, true, true, false, false, false, false] rfl rfl (by kernel_rfl) (fun _ _ _ h => h) (Or.inl ⟨by rfl, ?_⟩) ?_ ?_
            rotate_left
            · intro w'
              go_simp
              with_reducible rfl
            rotate_left
            · simp only [Act.put, List.setIfInBounds_toArray, List.set_cons_zero, List.set_cons_succ, i64_w, i32_w]
              rfl
            refine pure_ (i := 3) (N := some 23) (v := ?_) (a' := ?_) #[false, true, true, true, false, false, false] rfl rfl (by kernel_rfl) (fun _ _ _ h => h) (Or.inl ⟨by rfl, ?_⟩) ?_ ?_
            rotate_left
            · intro w'
              go_simp
              with_reducible rfl
            rotate_left
            · simp only [Act.put, List.setIfInBounds_toArray, List.set_cons_zero, List.set_cons_succ, i64_w, i32_w]
              rfl
            refine take_ (i := 0) (N := some 20) (v := ?_) (a' := ?_) #[true, true, true, true, false, false, false] rfl rfl (by kernel_rfl) (fun _ _ _ h => h) (Or.inl ⟨by rfl, ?_⟩) hHeld ?_ ?_
            rotate_left
            · rintro w' ⟨s0, s1, s2, s3⟩
              go_simp
              with_reducible rfl
            rotate_left
            · simp only [Act.put, List.setIfInBounds_toArray, List.set_cons_zero, List.set_cons_succ, i64_w, i32_w]
              rfl
            refine one_ (i := 4) (N := some 24) #[true, true, true, true, true, false, false] rfl rfl (by kernel_rfl) (by decide) (fun K hK => ?_)
            refine goes_ Try.func42 (by kernel_rfl) rfl #[.int .i64 t526, .int .i64 t527, .slice Ao75 t528.length co75] (by rfl) rfl rfl (by (try simp only [List.map_toArray, List.map_cons, List.map_nil]); first | done | rfl | (simp only [List.length_drop, List.length_take]; rfl)) ?_
            with_reducible refine (spec_LoopAround.calls k t526 t527 _ _ t528 t540 t541 t542 t545 _ ?side1 ?side2 A5.out).mono ?_
            (case side1 => repeat (first | exact (Kd.Q_reads' HO530.out).2.2 | (with_reducible refine Kd.C_alloc ?_ _) | (with_reducible refine Kd.C_drewN ?_ _) | (with_reducible refine Kd.C_drew ?_)))
            (case side2 => exact (Kd.Q_reads' HO530.out).2.1)
            rintro e w83 ⟨v543, v546, rfl, ho0, ho1, hb⟩
            refine ⟨_, rfl, ?_⟩
            have n0_ := Aside0.mk (Kd.Q_below (by (with_reducible repeat (first | apply Kd.Q_alloc | apply Kd.Q_drewN | apply Kd.Q_drew)); exact HO530.out) hb)
            have n1_ := Aside0.mk (Kd.S_mono (Kd.S_told (Kd.S_told (Kd.S_old (by (with_reducible repeat (first | apply Kd.S_alloc | apply Kd.S_drewN | apply Kd.S_drew)); exact HO535.out) hb) (Kd.S_base ho0)) (Kd.S_base ho1)) (fun _ h_ => h_.1))
            have n2_ := Aside0.mk (Kd.S_mono (Kd.S_told (Kd.S_told (Kd.S_old (by (with_reducible repeat (first | apply Kd.S_alloc | apply Kd.S_drewN | apply Kd.S_drew)); exact HO538.out) hb) (Kd.S_base ho0)) (Kd.S_base ho1)) (fun _ h_ => h_.1))
            have n3_ := Aside0.mk (Kd.S_lower (Kd.S_new' (Kd.S_new' (Kd.S_new' ho0 (Kd.Q_lt (by (with_reducible repeat (first | apply Kd.Q_alloc | apply Kd.Q_drewN | apply Kd.Q_drew)); exact HO530.out))) (Kd.S_lt (by (with_reducible repeat (first | apply Kd.S_alloc | apply Kd.S_drewN | apply Kd.S_drew)); exact HO535.out))) (Kd.S_lt (by (with_reducible repeat (first | apply Kd.S_alloc | apply Kd.S_drewN | apply Kd.S_drew)); exact HO538.out))) (below_size (by repeat (first | (with_reducible first | exact HB.out | apply below_alloc | apply pw_below_drewN | apply below_drew1 | refine below_set ?_ GE539.out) | exact HB.out))))
            have n4_ := Aside0.mk (Kd.S_lower (Kd.S_new' (Kd.S_new' (Kd.S_new' ho1 (Kd.Q_lt (by (with_reducible repeat (first | apply Kd.Q_alloc | apply Kd.Q_drewN | apply Kd.Q_drew)); exact HO530.out))) (Kd.S_lt (by (with_reducible repeat (first | apply Kd.S_alloc | apply Kd.S_drewN | apply Kd.S_drew)); exact HO535.out))) (Kd.S_lt (by (with_reducible repeat (first | apply Kd.S_alloc | apply Kd.S_drewN | apply Kd.S_drew)); exact HO538.out))) (below_size (by repeat (first | (with_reducible first | exact HB.out | apply below_alloc | apply pw_below_drewN | apply below_drew1 | refine below_set ?_ GE539.out) | exact HB.out))))
            have n5_ := Aside0.mk (blk_below (g := gb539) (o := .cells #[.int .i64 t531, .int .i64 t532, .slice Ao79 t533.length co79, .slice Ao80 t536.length co80] 27 (0, 0)) (by (with_reducible repeat (first | refine blk_drewN ?_ _ | refine blk_drew ?_ | refine blk_alloc ?_ _)); exact BK539.out) hb)
            have n6_ := Aside0.mk (below_step (by repeat (first | (with_reducible first | exact HB.out | apply below_alloc | apply pw_below_drewN | apply below_drew1 | refine below_set ?_ GE539.out) | exact HB.out)) hb)
            clear HO530
            clear HO535
            clear HO538
            clear BK539
            clear HB
            have HO530 := n0_
            have HO535 := n1_
            have HO538 := n2_
            have HO544 := n3_
            have HO547 := n4_
            have BK539 := n5_
            have HB := n6_
            clear n0_ n1_ n2_ n3_ n4_ n5_ n6_
            (try clear hb)
            (try clear hb2)
            (try clear hk)
            (try clear hi)
            (try clear ho0)
            (try clear ho1)
            obtain ⟨Ao84, co84, eo84⟩ := Kd.S_slice HO544.out
            (first | subst eo84 | (injection eo84 with f1_ f2_ f3_; have f4_ := f1_.symm; have f5_ := f3_.symm; clear f1_ f2_ f3_; subst f4_; subst f5_))
            obtain ⟨Ao85, co85, eo85⟩ := Kd.S_slice HO547.out
            (first | subst eo85 | (injection eo85 with f1_ f2_ f3_; have f4_ := f1_.symm; have f5_ := f3_.symm; clear f1_ f2_ f3_; subst f4_; subst f5_))
            refine hK.out _ _ ⟨(blk_cell BK539.out 0).trans rfl, (blk_cell BK539.out 1).trans rfl, (blk_cell BK539.out 2).trans rfl, (blk_cell BK539.out 3).trans rfl⟩ (fun hHeld => ?_)
            clear hK K
            refine norm_ (a' := ?_) ?_ ?_
            rotate_left
            · show Act.put _ (some 24) _ = _
              simp only [Act.put, List.setIfInBounds_toArray, List.set_cons_zero, List.set_cons_succ, i64_w, i32_w]
              rfl
            refine one_ (i := 5) (N := some 25) #[true, true, true, true, true, true, false] rfl rfl (by kernel_rfl) (by decide) (fun K hK => ?_)
            refine goes_ Try.func41 (by kernel_rfl) rfl #[.agg #[.int .i64 t531, .int .i64 t532, .slice Ao79 t533.length co79, .slice Ao80 t536.length co80], .agg #[.int .i64 t540, .int .i64 t541, .slice Ao84 t542.length co84, .slice Ao85 t545.length co85]] (by rfl) rfl rfl (by (try simp only [List.map_toArray, List.map_cons, List.map_nil]); first | done | rfl | (simp only [List.length_drop, List.length_take]; rfl)) ?_
            with_reducible refine (laws_sameLoop.calls k t531 t532 _ _ t533 _ _ t536 t540 t541 _ _ t542 _ _ t545 true _ ?side1 ?side2 ?side3 ?side4 ?side5 ?side6 ?side7 ?side8 A6.out).mono ?_
            (case side1 => repeat (first | exact (Kd.S_reads' HO535.out).2.2 | (with_reducible refine Kd.C_alloc ?_ _) | (with_reducible refine Kd.C_drewN ?_ _) | (with_reducible refine Kd.C_drew ?_)))
            (case side2 => exact (Kd.S_reads' HO535.out).2.1)
            (case side3 => repeat (first | exact (Kd.S_reads' HO538.out).2.2 | (with_reducible refine Kd.C_alloc ?_ _) | (with_reducible refine Kd.C_drewN ?_ _) | (with_reducible refine Kd.C_drew ?_)))
            (case side4 => exact (Kd.S_reads' HO538.out).2.1)
            (case side5 => repeat (first | exact (Kd.S_reads' HO544.out).2.2 | (with_reducible refine Kd.C_alloc ?_ _) | (with_reducible refine Kd.C_drewN ?_ _) | (with_reducible refine Kd.C_drew ?_)))
            (case side6 => exact (Kd.S_reads' HO544.out).2.1)
            (case side7 => repeat (first | exact (Kd.S_reads' HO547.out).2.2 | (with_reducible refine Kd.C_alloc ?_ _) | (with_reducible refine Kd.C_drewN ?_ _) | (with_reducible refine Kd.C_drew ?_)))
            (case side8 => exact (Kd.S_reads' HO547.out).2.1)
            rintro e w86 ⟨rfl, hb⟩
            refine ⟨_, rfl, ?_⟩
            have n0_ := Aside0.mk (Kd.Q_below (by (with_reducible repeat (first | apply Kd.Q_alloc | apply Kd.Q_drewN | apply Kd.Q_drew)); exact HO530.out) hb)
            have n1_ := Aside0.mk (Kd.S_below (by (with_reducible repeat (first | apply Kd.S_alloc | apply Kd.S_drewN | apply Kd.S_drew)); exact HO535.out) hb)
            have n2_ := Aside0.mk (Kd.S_below (by (with_reducible repeat (first | apply Kd.S_alloc | apply Kd.S_drewN | apply Kd.S_drew)); exact HO538.out) hb)
            have n3_ := Aside0.mk (Kd.S_below (by (with_reducible repeat (first | apply Kd.S_alloc | apply Kd.S_drewN | apply Kd.S_drew)); exact HO544.out) hb)
            have n4_ := Aside0.mk (Kd.S_below (by (with_reducible repeat (first | apply Kd.S_alloc | apply Kd.S_drewN | apply Kd.S_drew)); exact HO547.out) hb)
            have n5_ := Aside0.mk (blk_below (g := gb539) (o := .cells #[.int .i64 t531, .int .i64 t532, .slice Ao79 t533.length co79, .slice Ao80 t536.length co80] 27 (0, 0)) (by (with_reducible repeat (first | refine blk_drewN ?_ _ | refine blk_drew ?_ | refine blk_alloc ?_ _)); exact BK539.out) hb)
            have n6_ := Aside0.mk (below_step (by repeat (first | (with_reducible first | exact HB.out | apply below_alloc | apply pw_below_drewN | apply below_drew1 | refine below_set ?_ GE539.out) | exact HB.out)) hb)
            clear HO530
            clear HO535
            clear HO538
            clear HO544
            clear HO547
            clear BK539
            clear HB
            have HO530 := n0_
            have HO535 := n1_
            have HO538 := n2_
            have HO544 := n3_
            have HO547 := n4_
            have BK539 := n5_
            have HB := n6_
            clear n0_ n1_ n2_ n3_ n4_ n5_ n6_
            (try clear hb)
            (try clear hb2)
            (try clear hk)
            (try clear hi)
            refine hK.out _ _ ⟨(blk_cell BK539.out 0).trans rfl, (blk_cell BK539.out 1).trans rfl, (blk_cell BK539.out 2).trans rfl, (blk_cell BK539.out 3).trans rfl⟩ (fun hHeld => ?_)
            clear hK K
            refine norm_ (a' := ?_) ?_ ?_
            rotate_left
            · show Act.put _ (some 25) _ = _
              simp only [Act.put, List.setIfInBounds_toArray, List.set_cons_zero, List.set_cons_succ, i64_w, i32_w]
              rfl
            refine pure_ (i := 6) (N := some 26) (v := ?_) (a' := ?_) #[true, true, true, true, true, true, true] rfl rfl (by kernel_rfl) (fun _ _ _ h => h) (Or.inl ⟨by rfl, ?_⟩) ?_ ?_
            rotate_left
            · intro w'
              go_simp
              with_reducible rfl
            rotate_left
            · simp only [Act.put, List.setIfInBounds_toArray, List.set_cons_zero, List.set_cons_succ, i64_w, i32_w]
              rfl
            refine done_ (by kernel_rfl) ?_
            have hcz87_0 : w86.cell? ⟨gb539, 0, none⟩ = some (.int .i64 t531) := (blk_cell BK539.out 0).trans rfl
            have hcz87_1 : w86.cell? ⟨gb539, 1, none⟩ = some (.int .i64 t532) := (blk_cell BK539.out 1).trans rfl
            have hcz87_2 : w86.cell? ⟨gb539, 2, none⟩ = some (.slice Ao79 t533.length co79) := (blk_cell BK539.out 2).trans rfl
            have hcz87_3 : w86.cell? ⟨gb539, 3, none⟩ = some (.slice Ao80 t536.length co80) := (blk_cell BK539.out 3).trans rfl
            have hfz87_0 := blk_frozen BK539.out 0
            have hfz87_1 := blk_frozen BK539.out 1
            have hfz87_2 := blk_frozen BK539.out 2
            have hfz87_3 := blk_frozen BK539.out 3
            try go_wp2_with (first | ((with_reducible refine gate_callee (f := 43) rfl ?_); refine goesL_ (some 32) rfl rfl Try.func43 (by kernel_rfl) rfl #[.agg #[.int .i64 t531, .int .i64 t532, .slice Ao79 t533.length co79, .slice Ao80 t536.length co80]] rfl (by (try simp only [List.map_toArray, List.map_cons, List.map_nil]); first | done | rfl | (simp only [List.length_drop, List.length_take]; rfl)) ?_; (with_reducible refine (impl_LoopValid.calls k t531 t532 _ _ t533 _ _ t536 true _ ?side1 ?side2 ?side3 ?side4 A25.out).mono ?_); (case side1 => repeat (first | exact (Kd.S_reads' HO535.out).2.2 | (with_reducible refine Kd.C_alloc ?_ _) | (with_reducible refine Kd.C_drewN ?_ _) | (with_reducible refine Kd.C_drew ?_))); (case side2 => exact (Kd.S_reads' HO535.out).2.1); (case side3 => repeat (first | exact (Kd.S_reads' HO538.out).2.2 | (with_reducible refine Kd.C_alloc ?_ _) | (with_reducible refine Kd.C_drewN ?_ _) | (with_reducible refine Kd.C_drew ?_))); (case side4 => exact (Kd.S_reads' HO538.out).2.1); rintro e w88 ⟨rfl, hb⟩; refine ⟨_, rfl, ?_⟩; have n0_ := Aside0.mk (Kd.Q_below (by (with_reducible repeat (first | apply Kd.Q_alloc | apply Kd.Q_drewN | apply Kd.Q_drew)); exact HO530.out) hb); have n1_ := Aside0.mk (Kd.S_below (by (with_reducible repeat (first | apply Kd.S_alloc | apply Kd.S_drewN | apply Kd.S_drew)); exact HO535.out) hb); have n2_ := Aside0.mk (Kd.S_below (by (with_reducible repeat (first | apply Kd.S_alloc | apply Kd.S_drewN | apply Kd.S_drew)); exact HO538.out) hb); have n3_ := Aside0.mk (Kd.S_below (by (with_reducible repeat (first | apply Kd.S_alloc | apply Kd.S_drewN | apply Kd.S_drew)); exact HO544.out) hb); have n4_ := Aside0.mk (Kd.S_below (by (with_reducible repeat (first | apply Kd.S_alloc | apply Kd.S_drewN | apply Kd.S_drew)); exact HO547.out) hb); have n5_ := Aside0.mk (blk_below (g := gb539) (o := .cells #[.int .i64 t531, .int .i64 t532, .slice Ao79 t533.length co79, .slice Ao80 t536.length co80] 27 (0, 0)) (by (with_reducible repeat (first | refine blk_drewN ?_ _ | refine blk_drew ?_ | refine blk_alloc ?_ _)); exact BK539.out) hb); have n6_ := Aside0.mk (below_step (by repeat (first | (with_reducible first | exact HB.out | apply below_alloc | apply pw_below_drewN | apply below_drew1 | refine below_set ?_ GE539.out) | exact HB.out)) hb); clear HO530; clear HO535; clear HO538; clear HO544; clear HO547; clear BK539; clear HB; have HO530 := n0_; have HO535 := n1_; have HO538 := n2_; have HO544 := n3_; have HO547 := n4_; have BK539 := n5_; have HB := n6_; clear n0_ n1_ n2_ n3_ n4_ n5_ n6_; (try clear hb); (try clear hb2); (try clear hk); (try clear hi); have hcz89_0 : w88.cell? ⟨gb539, 0, none⟩ = some (.int .i64 t531) := (blk_cell BK539.out 0).trans rfl; have hcz89_1 : w88.cell? ⟨gb539, 1, none⟩ = some (.int .i64 t532) := (blk_cell BK539.out 1).trans rfl; have hcz89_2 : w88.cell? ⟨gb539, 2, none⟩ = some (.slice Ao79 t533.length co79) := (blk_cell BK539.out 2).trans rfl; have hcz89_3 : w88.cell? ⟨gb539, 3, none⟩ = some (.slice Ao80 t536.length co80) := (blk_cell BK539.out 3).trans rfl; have hfz89_0 := blk_frozen BK539.out 0; have hfz89_1 := blk_frozen BK539.out 1; have hfz89_2 := blk_frozen BK539.out 2; have hfz89_3 := blk_frozen BK539.out 3) | (go_at_call 21; (with_reducible refine (impl_LoopLength.calls k t531 t532 _ _ t533 _ _ t536 t551 _ ?side1 ?side2 ?side3 ?side4 A27.out).mono ?_); (case side1 => repeat (first | exact (Kd.S_reads' HO535.out).2.2 | (with_reducible refine Kd.C_alloc ?_ _) | (with_reducible refine Kd.C_drewN ?_ _) | (with_reducible refine Kd.C_drew ?_))); (case side2 => exact (Kd.S_reads' HO535.out).2.1); (case side3 => repeat (first | exact (Kd.S_reads' HO538.out).2.2 | (with_reducible refine Kd.C_alloc ?_ _) | (with_reducible refine Kd.C_drewN ?_ _) | (with_reducible refine Kd.C_drew ?_))); (case side4 => exact (Kd.S_reads' HO538.out).2.1); rintro e w90 ⟨rfl, hb⟩; have n0_ := Aside0.mk (Kd.Q_below (by (with_reducible repeat (first | apply Kd.Q_alloc | apply Kd.Q_drewN | apply Kd.Q_drew)); exact HO530.out) hb); have n1_ := Aside0.mk (Kd.S_below (by (with_reducible repeat (first | apply Kd.S_alloc | apply Kd.S_drewN | apply Kd.S_drew)); exact HO535.out) hb); have n2_ := Aside0.mk (Kd.S_below (by (with_reducible repeat (first | apply Kd.S_alloc | apply Kd.S_drewN | apply Kd.S_drew)); exact HO538.out) hb); have n3_ := Aside0.mk (Kd.S_below (by (with_reducible repeat (first | apply Kd.S_alloc | apply Kd.S_drewN | apply Kd.S_drew)); exact HO544.out) hb); have n4_ := Aside0.mk (Kd.S_below (by (with_reducible repeat (first | apply Kd.S_alloc | apply Kd.S_drewN | apply Kd.S_drew)); exact HO547.out) hb); have n5_ := Aside0.mk (blk_below (g := gb539) (o := .cells #[.int .i64 t531, .int .i64 t532, .slice Ao79 t533.length co79, .slice Ao80 t536.length co80] 27 (0, 0)) (by (with_reducible repeat (first | refine blk_drewN ?_ _ | refine blk_drew ?_ | refine blk_alloc ?_ _)); exact BK539.out) hb); have n6_ := Aside0.mk (below_step (by repeat (first | (with_reducible first | exact HB.out | apply below_alloc | apply pw_below_drewN | apply below_drew1 | refine below_set ?_ GE539.out) | exact HB.out)) hb); clear HO530; clear HO535; clear HO538; clear HO544; clear HO547; clear BK539; clear HB; have HO530 := n0_; have HO535 := n1_; have HO538 := n2_; have HO544 := n3_; have HO547 := n4_; have BK539 := n5_; have HB := n6_; clear n0_ n1_ n2_ n3_ n4_ n5_ n6_; (try clear hb); (try clear hb2); (try clear hk); (try clear hi)))
            go_ret
            exact ⟨by first | rfl | (simp [errW_none, errW_some] <;> rfl) | (simp [*, errW_none, errW_some] <;> rfl), by repeat (first | (with_reducible first | exact HB.out | apply below_alloc | apply pw_below_drewN | apply below_drew1 | refine below_set ?_ GE539.out) | exact HB.out)⟩
        · replace c26 := Bool.eq_false_iff.mpr c26
          subst c26
          have H1 : (some false) = some r := by rw [if_neg (show ¬ (false = true) by decide)] at H; exact H
          clear H
          have H := H1
          clear H1
          obtain rfl := Option.some.inj H
          go_enter Try.func8, Try.ntmps8
          try go_wp2_with (first | ((with_reducible refine gate_callee (f := 39) rfl ?_); refine goesL_ (some 12) rfl rfl Try.func39 (by kernel_rfl) rfl #[.slice A0 l0.length c0] rfl (by (try simp only [List.map_toArray, List.map_cons, List.map_nil]); first | done | rfl | (simp only [List.length_drop, List.length_take]; rfl)) ?_; (with_reducible refine (spec_DrawLoopAround.calls k _ _ l0 t526 t527 t528 _ ?side1 ?side2 A3.out).mono ?_); (case side1 => repeat (first | exact HR0.out | (with_reducible refine Kd.C_alloc ?_ _) | (with_reducible refine Kd.C_drewN ?_ _) | (with_reducible refine Kd.C_drew ?_))); (case side2 => exact HC0.out); rintro e w91 ⟨v529, rfl, ho0, hb⟩; refine ⟨_, rfl, ?_⟩; have n0_ := Aside0.mk (Kd.Q_lower ho0 (below_size (by repeat (first | (with_reducible first | exact HB.out | apply below_alloc | apply pw_below_drewN | apply below_drew1) | exact HB.out)))); have n1_ := Aside0.mk (below_step (by repeat (first | (with_reducible first | exact HB.out | apply below_alloc | apply pw_below_drewN | apply below_drew1) | exact HB.out)) hb); clear HB; have HO530 := n0_; have HB := n1_; clear n0_ n1_; (try clear hb); (try clear hb2); (try clear hk); (try clear hi); (try clear ho0); obtain ⟨Ao92, co92, eo92, _⟩ := Kd.Q_slice HO530.out; subst eo92) | ((with_reducible refine gate_callee (f := 40) rfl ?_); refine goesL_ (some 19) rfl rfl Try.func40 (by kernel_rfl) rfl #[.int .i64 t526, .int .i64 t527, .slice Ao92 t528.length co92] rfl (by (try simp only [List.map_toArray, List.map_cons, List.map_nil]); first | done | rfl | (simp only [List.length_drop, List.length_take]; rfl)) ?_; (with_reducible refine (impl_LoopAround.calls k t526 t527 _ _ t528 t531 t532 t533 t536 _ ?side1 ?side2 A4.out).mono ?_); (case side1 => repeat (first | exact (Kd.Q_reads' HO530.out).2.2 | (with_reducible refine Kd.C_alloc ?_ _) | (with_reducible refine Kd.C_drewN ?_ _) | (with_reducible refine Kd.C_drew ?_))); (case side2 => exact (Kd.Q_reads' HO530.out).2.1); rintro e w93 ⟨v534, v537, rfl, ho0, ho1, hb⟩; refine ⟨_, rfl, ?_⟩; have n0_ := Aside0.mk (Kd.Q_below (by (with_reducible repeat (first | apply Kd.Q_alloc | apply Kd.Q_drewN | apply Kd.Q_drew)); exact HO530.out) hb); have n1_ := Aside0.mk (Kd.S_lower (Kd.S_new' ho0 (Kd.Q_lt (by (with_reducible repeat (first | apply Kd.Q_alloc | apply Kd.Q_drewN | apply Kd.Q_drew)); exact HO530.out))) (below_size (by repeat (first | (with_reducible first | exact HB.out | apply below_alloc | apply pw_below_drewN | apply below_drew1) | exact HB.out)))); have n2_ := Aside0.mk (Kd.S_lower (Kd.S_new' ho1 (Kd.Q_lt (by (with_reducible repeat (first | apply Kd.Q_alloc | apply Kd.Q_drewN | apply Kd.Q_drew)); exact HO530.out))) (below_size (by repeat (first | (with_reducible first | exact HB.out | apply below_alloc | apply pw_below_drewN | apply below_drew1) | exact HB.out)))); have n3_ := Aside0.mk (below_step (by repeat (first | (with_reducible first | exact HB.out | apply below_alloc | apply pw_below_drewN | apply below_drew1) | exact HB.out)) hb); clear HO530; clear HB; have HO530 := n0_; have HO535 := n1_; have HO538 := n2_; have HB := n3_; clear n0_ n1_ n2_ n3_; (try clear hb); (try clear hb2); (try clear hk); (try clear hi); (try clear ho0); (try clear ho1)) | ((with_reducible refine gate_dst (N := 6) rfl ?_); refine box_event ?hg (N := 6) ?hd (cs := #[.int .i64 0, .int .i64 0, .slice none 0 0, .slice none 0 0]) (t := 27) ?hr ?_; (case hd => rfl); (case hg => rfl); (case hr => first | (go_simp; done) | (go_simp; rfl)); intro gb539 hg w94 hbox hb; have n0_ := Aside0.mk (Kd.Q_below (by (with_reducible repeat (first | apply Kd.Q_alloc | apply Kd.Q_drewN | apply Kd.Q_drew)); exact HO530.out) hb); have n1_ := Aside0.mk (Kd.S_below (by (with_reducible repeat (first | apply Kd.S_alloc | apply Kd.S_drewN | apply Kd.S_drew)); exact HO535.out) hb); have n2_ := Aside0.mk (Kd.S_below (by (with_reducible repeat (first | apply Kd.S_alloc | apply Kd.S_drewN | apply Kd.S_drew)); exact HO538.out) hb); have n3_ := Aside0.mk (below_step (by repeat (first | (with_reducible first | exact HB.out | apply below_alloc | apply pw_below_drewN | apply below_drew1) | exact HB.out)) hb); have n4_ := Aside0.mk (hbox); have n5_ := Aside0.mk ((by rw [hg]; exact (below_size (by repeat (first | (with_reducible first | exact HB.out | apply below_alloc | apply pw_below_drewN | apply below_drew1) | exact HB.out))) : w.heap.size ≤ gb539)); have n6_ := Aside0.mk ((by rw [hg]; exact (below_size (by repeat (first | (with_reducible first | exact HB.out | apply below_alloc | apply pw_below_drewN | apply below_drew1) | exact HB.out))) : w.heap.size ≤ gb539)); clear HO530; clear HO535; clear HO538; clear HB; have HO530 := n0_; have HO535 := n1_; have HO538 := n2_; have HB := n3_; have BK539 := n4_; have GW539 := n5_; have GE539 := n6_; clear n0_ n1_ n2_ n3_ n4_ n5_ n6_; clear hb hbox hg; have hcz95_0 : w94.cell? ⟨gb539, 0, none⟩ = some (.int .i64 0) := (blk_cell BK539.out 0).trans rfl; have hcz95_1 : w94.cell? ⟨gb539, 1, none⟩ = some (.int .i64 0) := (blk_cell BK539.out 1).trans rfl; have hcz95_2 : w94.cell? ⟨gb539, 2, none⟩ = some (.slice none 0 0) := (blk_cell BK539.out 2).trans rfl; have hcz95_3 : w94.cell? ⟨gb539, 3, none⟩ = some (.slice none 0 0) := (blk_cell BK539.out 3).trans rfl; have hfz95_0 := blk_frozen BK539.out 0; have hfz95_1 := blk_frozen BK539.out 1; have hfz95_2 := blk_frozen BK539.out 2; have hfz95_3 := blk_frozen BK539.out 3; obtain ⟨Ao96, co96, eo96⟩ := Kd.S_slice HO535.out; subst eo96; obtain ⟨Ao97, co97, eo97⟩ := Kd.S_slice HO538.out; subst eo97))
          have n0_ : Aside0 (Kd.Q Kd.bool 4 ((((w94.setCell ⟨gb539, 0, none⟩ (.int .i64 t531)).setCell ⟨gb539, 1, none⟩ (.int .i64 t532)).setCell ⟨gb539, 2, none⟩ (.slice Ao96 t533.length co96)).setCell ⟨gb539, 3, none⟩ (.slice Ao97 t536.length co97)) w.heap.size (fun _ => True) (.slice Ao92 t528.length co92) t528) := ⟨by (with_reducible repeat (first | apply Kd.Q_alloc | apply Kd.Q_drewN | apply Kd.Q_drew)); exact Kd.Q_mono (Kd.Q_far (p := ⟨gb539, 3, none⟩) (Kd.Q_far (p := ⟨gb539, 2, none⟩) (Kd.Q_far (p := ⟨gb539, 1, none⟩) (Kd.Q_far (p := ⟨gb539, 0, none⟩) (Kd.Q_types HO530.out BK539.out (by decide)) (fun _ hk => hk.2) (.int .i64 t531)) (fun _ hk => hk.2) (.int .i64 t532)) (fun _ hk => hk.2) (.slice Ao96 t533.length co96)) (fun _ hk => hk.2) (.slice Ao97 t536.length co97)) (fun _ hk => trivial)⟩
          have n1_ : Aside0 (Kd.S (Kd.slice 4 Kd.bool) 45 ((((w94.setCell ⟨gb539, 0, none⟩ (.int .i64 t531)).setCell ⟨gb539, 1, none⟩ (.int .i64 t532)).setCell ⟨gb539, 2, none⟩ (.slice Ao96 t533.length co96)).setCell ⟨gb539, 3, none⟩ (.slice Ao97 t536.length co97)) w.heap.size (fun k_ => some k_ ≠ (.slice Ao92 t528.length co92 : Value).ownBlock ∧ some k_ ≠ (.slice Ao97 t536.length co97 : Value).ownBlock) (.slice Ao96 t533.length co96) t533) := ⟨by (with_reducible repeat (first | apply Kd.S_alloc | apply Kd.S_drewN | apply Kd.S_drew)); exact Kd.S_mono (Kd.S_far (p := ⟨gb539, 3, none⟩) (Kd.S_far (p := ⟨gb539, 2, none⟩) (Kd.S_far (p := ⟨gb539, 1, none⟩) (Kd.S_far (p := ⟨gb539, 0, none⟩) (Kd.S_types HO535.out BK539.out (by decide)) (fun _ hk => hk.2) (.int .i64 t531)) (fun _ hk => hk.2) (.int .i64 t532)) (fun _ hk => hk.2) (.slice Ao96 t533.length co96)) (fun _ hk => hk.2) (.slice Ao97 t536.length co97)) (fun _ hk => ⟨hk.1.2, hk.1.1⟩)⟩
          have n2_ : Aside0 (Kd.S (Kd.slice 4 Kd.bool) 45 ((((w94.setCell ⟨gb539, 0, none⟩ (.int .i64 t531)).setCell ⟨gb539, 1, none⟩ (.int .i64 t532)).setCell ⟨gb539, 2, none⟩ (.slice Ao96 t533.length co96)).setCell ⟨gb539, 3, none⟩ (.slice Ao97 t536.length co97)) w.heap.size (fun k_ => some k_ ≠ (.slice Ao92 t528.length co92 : Value).ownBlock ∧ some k_ ≠ (.slice Ao96 t533.length co96 : Value).ownBlock) (.slice Ao97 t536.length co97) t536) := ⟨by (with_reducible repeat (first | apply Kd.S_alloc | apply Kd.S_drewN | apply Kd.S_drew)); exact Kd.S_mono (Kd.S_far (p := ⟨gb539, 3, none⟩) (Kd.S_far (p := ⟨gb539, 2, none⟩) (Kd.S_far (p := ⟨gb539, 1, none⟩) (Kd.S_far (p := ⟨gb539, 0, none⟩) (Kd.S_types HO538.out BK539.out (by decide)) (fun _ hk => hk.2) (.int .i64 t531)) (fun _ hk => hk.2) (.int .i64 t532)) (fun _ hk => hk.2) (.slice Ao96 t533.length co96)) (fun _ hk => hk.2) (.slice Ao97 t536.length co97)) (fun _ hk => ⟨hk.1.2, hk.1.1⟩)⟩
          have n3_ : Aside0 (((((w94.setCell ⟨gb539, 0, none⟩ (.int .i64 t531)).setCell ⟨gb539, 1, none⟩ (.int .i64 t532)).setCell ⟨gb539, 2, none⟩ (.slice Ao96 t533.length co96)).setCell ⟨gb539, 3, none⟩ (.slice Ao97 t536.length co97)).heap[gb539]? = some (.cells #[.int .i64 t531, .int .i64 t532, .slice Ao96 t533.length co96, .slice Ao97 t536.length co97] 27 (0, 0))) := ⟨by (with_reducible repeat (first | refine blk_drewN ?_ _ | refine blk_drew ?_ | refine blk_alloc ?_ _)); refine blk_put (cs := #[.int .i64 t531, .int .i64 t532, .slice Ao96 t533.length co96, .slice none 0 0]) ?_ 3 _ rfl; (with_reducible repeat (first | refine blk_drewN ?_ _ | refine blk_drew ?_ | refine blk_alloc ?_ _)); refine blk_put (cs := #[.int .i64 t531, .int .i64 t532, .slice none 0 0, .slice none 0 0]) ?_ 2 _ rfl; (with_reducible repeat (first | refine blk_drewN ?_ _ | refine blk_drew ?_ | refine blk_alloc ?_ _)); refine blk_put (cs := #[.int .i64 t531, .int .i64 0, .slice none 0 0, .slice none 0 0]) ?_ 1 _ rfl; (with_reducible repeat (first | refine blk_drewN ?_ _ | refine blk_drew ?_ | refine blk_alloc ?_ _)); refine blk_put (cs := #[.int .i64 0, .int .i64 0, .slice none 0 0, .slice none 0 0]) ?_ 0 _ rfl; (with_reducible repeat (first | refine blk_drewN ?_ _ | refine blk_drew ?_ | refine blk_alloc ?_ _)); exact BK539.out⟩
          have n4_ : Aside0 (Below w.heap.size w ((((w94.setCell ⟨gb539, 0, none⟩ (.int .i64 t531)).setCell ⟨gb539, 1, none⟩ (.int .i64 t532)).setCell ⟨gb539, 2, none⟩ (.slice Ao96 t533.length co96)).setCell ⟨gb539, 3, none⟩ (.slice Ao97 t536.length co97))) := ⟨by repeat (first | (with_reducible first | exact HB.out | apply below_alloc | apply pw_below_drewN | apply below_drew1 | refine below_set ?_ GE539.out) | exact HB.out)⟩
          (try clear HO530)
          (try clear HO535)
          (try clear HO538)
          (try clear BK539)
          (try clear HB)
          generalize ((((w94.setCell ⟨gb539, 0, none⟩ (.int .i64 t531)).setCell ⟨gb539, 1, none⟩ (.int .i64 t532)).setCell ⟨gb539, 2, none⟩ (.slice Ao96 t533.length co96)).setCell ⟨gb539, 3, none⟩ (.slice Ao97 t536.length co97)) = w98 at n0_ n1_ n2_ n3_ n4_ ⊢
          have HO530 := n0_
          have HO535 := n1_
          have HO538 := n2_
          have BK539 := n3_
          have HB := n4_
          clear n0_ n1_ n2_ n3_ n4_
          have n0_ := Aside0.mk (Kd.Q_drew HO530.out)
          have n1_ := Aside0.mk (Kd.S_drew HO535.out)
          have n2_ := Aside0.mk (Kd.S_drew HO538.out)
          have n3_ := Aside0.mk (blk_drew BK539.out)
          have n4_ := Aside0.mk (below_drew1 HB.out)
          clear HO530
          clear HO535
          clear HO538
          clear BK539
          clear HB
          have HO530 := n0_
          have HO535 := n1_
          have HO538 := n2_
          have BK539 := n3_
          have HB := n4_
          clear n0_ n1_ n2_ n3_ n4_
          refine start_ (n := 7) (S := fun w' => w'.cell? ⟨gb539, 0, none⟩ = some (.int .i64 t531) ∧ w'.cell? ⟨gb539, 1, none⟩ = some (.int .i64 t532) ∧ w'.cell? ⟨gb539, 2, none⟩ = some (.slice Ao96 t533.length co96) ∧ w'.cell? ⟨gb539, 3, none⟩ = some (.slice Ao97 t536.length co97)) (ds := []) #[false, false, false, false, false, false, false] (by kernel_rfl) rfl rfl ⟨(blk_cell BK539.out 0).trans rfl, (blk_cell BK539.out 1).trans rfl, (blk_cell BK539.out 2).trans rfl, (blk_cell BK539.out 3).trans rfl⟩ (fun hHeld => ?_)
          generalize w98.drew = w99 at HO530 HO535 HO538 BK539 HB hHeld ⊢
          refine pure_ (i := 1) (N := some 21) (v := ?_) (a' := ?_) #[false, true, false, false, false, false, false] rfl rfl (by kernel_rfl) (fun _ _ _ h => h) (Or.inl ⟨by rfl, ?_⟩) ?_ ?_
          rotate_left
          · intro w'
            go_simp
            with_reducible rfl
          rotate_left
          · simp only [Act.put, List.setIfInBounds_toArray, List.set_cons_zero, List.set_cons_succ, i64_w, i32_w]
            rfl
          refine pure_ (i := 2) (N := some 22) (v := ?_) (a' := ?_) #[false, true, true, false, false, false, false] rfl rfl (by kernel_rfl) (fun _ _ _ h => h) (Or.inl ⟨by rfl, ?_⟩) ?_ ?_
          rotate_left
          · intro w'
            go_simp
            with_reducible rfl
          rotate_left
          · simp only [Act.put, List.setIfInBounds_toArray, List.set_cons_zero, List.set_cons_succ, i64_w, i32_w]
            rfl
          refine pure_ (i := 3) (N := some 23) (v := ?_) (a' := ?_) #[false, true, true, true, false, false, false] rfl rfl (by kernel_rfl) (fun _ _ _ h => h) (Or.inl ⟨by rfl, ?_⟩) ?_ ?_
          rotate_left
          · intro w'
            go_simp
            with_reducible rfl
          rotate_left
          · simp only [Act.put, List.setIfInBounds_toArray, List.set_cons_zero, List.set_cons_succ, i64_w, i32_w]
            rfl
          refine take_ (i := 0) (N := some 20) (v := ?_) (a' := ?_) #[true, true, true, true, false, false, false] rfl rfl (by kernel_rfl) (fun _ _ _ h => h) (Or.inl ⟨by rfl, ?_⟩) hHeld ?_ ?_
          rotate_left
          · rintro w' ⟨s0, s1, s2, s3⟩
            go_simp
            with_reducible rfl
          rotate_left
          · simp only [Act.put, List.setIfInBounds_toArray, List.set_cons_zero, List.set_cons_succ, i64_w, i32_w]
            rfl
          refine one_ (i := 4) (N := some 24) #[true, true, true, true, true, false, false] rfl rfl (by kernel_rfl) (by decide) (fun K hK => ?_)
          refine goes_ Try.func42 (by kernel_rfl) rfl #[.int .i64 t526, .int .i64 t527, .slice Ao92 t528.length co92] (by rfl) rfl rfl (by (try simp only [List.map_toArray, List.map_cons, List.map_nil]); first | done | rfl | (simp only [List.length_drop, List.length_take]; rfl)) ?_
          with_reducible refine (spec_LoopAround.calls k t526 t527 _ _ t528 t540 t541 t542 t545 _ ?side1 ?side2 A5.out).mono ?_
          (case side1 => repeat (first | exact (Kd.Q_reads' HO530.out).2.2 | (with_reducible refine Kd.C_alloc ?_ _) | (with_reducible refine Kd.C_drewN ?_ _) | (with_reducible refine Kd.C_drew ?_)))
          (case side2 => exact (Kd.Q_reads' HO530.out).2.1)
          rintro e w100 ⟨v543, v546, rfl, ho0, ho1, hb⟩
          refine ⟨_, rfl, ?_⟩
          have n0_ := Aside0.mk (Kd.Q_below (by (with_reducible repeat (first | apply Kd.Q_alloc | apply Kd.Q_drewN | apply Kd.Q_drew)); exact HO530.out) hb)
          have n1_ := Aside0.mk (Kd.S_mono (Kd.S_told (Kd.S_told (Kd.S_old (by (with_reducible repeat (first | apply Kd.S_alloc | apply Kd.S_drewN | apply Kd.S_drew)); exact HO535.out) hb) (Kd.S_base ho0)) (Kd.S_base ho1)) (fun _ h_ => h_.1))
          have n2_ := Aside0.mk (Kd.S_mono (Kd.S_told (Kd.S_told (Kd.S_old (by (with_reducible repeat (first | apply Kd.S_alloc | apply Kd.S_drewN | apply Kd.S_drew)); exact HO538.out) hb) (Kd.S_base ho0)) (Kd.S_base ho1)) (fun _ h_ => h_.1))
          have n3_ := Aside0.mk (Kd.S_lower (Kd.S_new' (Kd.S_new' (Kd.S_new' ho0 (Kd.Q_lt (by (with_reducible repeat (first | apply Kd.Q_alloc | apply Kd.Q_drewN | apply Kd.Q_drew)); exact HO530.out))) (Kd.S_lt (by (with_reducible repeat (first | apply Kd.S_alloc | apply Kd.S_drewN | apply Kd.S_drew)); exact HO535.out))) (Kd.S_lt (by (with_reducible repeat (first | apply Kd.S_alloc | apply Kd.S_drewN | apply Kd.S_drew)); exact HO538.out))) (below_size (by repeat (first | (with_reducible first | exact HB.out | apply below_alloc | apply pw_below_drewN | apply below_drew1 | refine below_set ?_ GE539.out) | exact HB.out))))
          have n4_ := Aside0.mk (Kd.S_lower (Kd.S_new' (Kd.S_new' (Kd.S_new' ho1 (Kd.Q_lt (by (with_reducible repeat (first | apply Kd.Q_alloc | apply Kd.Q_drewN | apply Kd.Q_drew)); exact HO530.out))) (Kd.S_lt (by (with_reducible repeat (first | apply Kd.S_alloc | apply Kd.S_drewN | apply Kd.S_drew)); exact HO535.out))) (Kd.S_lt (by (with_reducible repeat (first | apply Kd.S_alloc | apply Kd.S_drewN | apply Kd.S_drew)); exact HO538.out))) (below_size (by repeat (first | (with_reducible first | exact HB.out | apply below_alloc | apply pw_below_drewN | apply below_drew1 | refine below_set ?_ GE539.out) | exact HB.out))))
          have n5_ := Aside0.mk (blk_below (g := gb539) (o := .cells #[.int .i64 t531, .int .i64 t532, .slice Ao96 t533.length co96, .slice Ao97 t536.length co97] 27 (0, 0)) (by (with_reducible repeat (first | refine blk_drewN ?_ _ | refine blk_drew ?_ | refine blk_alloc ?_ _)); exact BK539.out) hb)
          have n6_ := Aside0.mk (below_step (by repeat (first | (with_reducible first | exact HB.out | apply below_alloc | apply pw_below_drewN | apply below_drew1 | refine below_set ?_ GE539.out) | exact HB.out)) hb)
          clear HO530
          clear HO535
          clear HO538
          clear BK539
          clear HB
          have HO530 := n0_
          have HO535 := n1_
          have HO538 := n2_
          have HO544 := n3_
          have HO547 := n4_
          have BK539 := n5_
          have HB := n6_
          clear n0_ n1_ n2_ n3_ n4_ n5_ n6_
          (try clear hb)
          (try clear hb2)
          (try clear hk)
          (try clear hi)
          (try clear ho0)
          (try clear ho1)
          obtain ⟨Ao101, co101, eo101⟩ := Kd.S_slice HO544.out
          (first | subst eo101 | (injection eo101 with f1_ f2_ f3_; have f4_ := f1_.symm; have f5_ := f3_.symm; clear f1_ f2_ f3_; subst f4_; subst f5_))
          obtain ⟨Ao102, co102, eo102⟩ := Kd.S_slice HO547.out
          (first | subst eo102 | (injection eo102 with f1_ f2_ f3_; have f4_ := f1_.symm; have f5_ := f3_.symm; clear f1_ f2_ f3_; subst f4_; subst f5_))
          refine hK.out _ _ ⟨(blk_cell BK539.out 0).trans rfl, (blk_cell BK539.out 1).trans rfl, (blk_cell BK539.out 2).trans rfl, (blk_cell BK539.out 3).trans rfl⟩ (fun hHeld => ?_)
          clear hK K
          refine norm_ (a' := ?_) ?_ ?_
          rotate_left
          · show Act.put _ (some 24) _ = _
            simp only [Act.put, List.setIfInBounds_toArray, List.set_cons_zero, List.set_cons_succ, i64_w, i32_w]
            rfl
          refine one_ (i := 5) (N := some 25) #[true, true, true, true, true, true, false] rfl rfl (by kernel_rfl) (by decide) (fun K hK => ?_)
          refine goes_ Try.func41 (by kernel_rfl) rfl #[.agg #[.int .i64 t531, .int .i64 t532, .slice Ao96 t533.length co96, .slice Ao97 t536.length co97], .agg #[.int .i64 t540, .int .i64 t541, .slice Ao101 t542.length co101, .slice Ao102 t545.length co102]] (by rfl) rfl rfl (by (try simp only [List.map_toArray, List.map_cons, List.map_nil]); first | done | rfl | (simp only [List.length_drop, List.length_take]; rfl)) ?_
          with_reducible refine (laws_sameLoop.calls k t531 t532 _ _ t533 _ _ t536 t540 t541 _ _ t542 _ _ t545 true _ ?side1 ?side2 ?side3 ?side4 ?side5 ?side6 ?side7 ?side8 A6.out).mono ?_
          (case side1 => repeat (first | exact (Kd.S_reads' HO535.out).2.2 | (with_reducible refine Kd.C_alloc ?_ _) | (with_reducible refine Kd.C_drewN ?_ _) | (with_reducible refine Kd.C_drew ?_)))
          (case side2 => exact (Kd.S_reads' HO535.out).2.1)
          (case side3 => repeat (first | exact (Kd.S_reads' HO538.out).2.2 | (with_reducible refine Kd.C_alloc ?_ _) | (with_reducible refine Kd.C_drewN ?_ _) | (with_reducible refine Kd.C_drew ?_)))
          (case side4 => exact (Kd.S_reads' HO538.out).2.1)
          (case side5 => repeat (first | exact (Kd.S_reads' HO544.out).2.2 | (with_reducible refine Kd.C_alloc ?_ _) | (with_reducible refine Kd.C_drewN ?_ _) | (with_reducible refine Kd.C_drew ?_)))
          (case side6 => exact (Kd.S_reads' HO544.out).2.1)
          (case side7 => repeat (first | exact (Kd.S_reads' HO547.out).2.2 | (with_reducible refine Kd.C_alloc ?_ _) | (with_reducible refine Kd.C_drewN ?_ _) | (with_reducible refine Kd.C_drew ?_)))
          (case side8 => exact (Kd.S_reads' HO547.out).2.1)
          rintro e w103 ⟨rfl, hb⟩
          refine ⟨_, rfl, ?_⟩
          have n0_ := Aside0.mk (Kd.Q_below (by (with_reducible repeat (first | apply Kd.Q_alloc | apply Kd.Q_drewN | apply Kd.Q_drew)); exact HO530.out) hb)
          have n1_ := Aside0.mk (Kd.S_below (by (with_reducible repeat (first | apply Kd.S_alloc | apply Kd.S_drewN | apply Kd.S_drew)); exact HO535.out) hb)
          have n2_ := Aside0.mk (Kd.S_below (by (with_reducible repeat (first | apply Kd.S_alloc | apply Kd.S_drewN | apply Kd.S_drew)); exact HO538.out) hb)
          have n3_ := Aside0.mk (Kd.S_below (by (with_reducible repeat (first | apply Kd.S_alloc | apply Kd.S_drewN | apply Kd.S_drew)); exact HO544.out) hb)
          have n4_ := Aside0.mk (Kd.S_below (by (with_reducible repeat (first | apply Kd.S_alloc | apply Kd.S_drewN | apply Kd.S_drew)); exact HO547.out) hb)
          have n5_ := Aside0.mk (blk_below (g := gb539) (o := .cells #[.int .i64 t531, .int .i64 t532, .slice Ao96 t533.length co96, .slice Ao97 t536.length co97] 27 (0, 0)) (by (with_reducible repeat (first | refine blk_drewN ?_ _ | refine blk_drew ?_ | refine blk_alloc ?_ _)); exact BK539.out) hb)
          have n6_ := Aside0.mk (below_step (by repeat (first | (with_reducible first | exact HB.out | apply below_alloc | apply pw_below_drewN | apply below_drew1 | refine below_set ?_ GE539.out) | exact HB.out)) hb)
          clear HO530
          clear HO535
          clear HO538
          clear HO544
          clear HO547
          clear BK539
          clear HB
          have HO530 := n0_
          have HO535 := n1_
          have HO538 := n2_
          have HO544 := n3_
          have HO547 := n4_
          have BK539 := n5_
          have HB := n6_
          clear n0_ n1_ n2_ n3_ n4_ n5_ n6_
          (try clear hb)
          (try clear hb2)
          (try clear hk)
          (try clear hi)
          refine hK.out _ _ ⟨(blk_cell BK539.out 0).trans rfl, (blk_cell BK539.out 1).trans rfl, (blk_cell BK539.out 2).trans rfl, (blk_cell BK539.out 3).trans rfl⟩ (fun hHeld => ?_)
          clear hK K
          refine norm_ (a' := ?_) ?_ ?_
          rotate_left
          · show Act.put _ (some 25) _ = _
            simp only [Act.put, List.setIfInBounds_toArray, List.set_cons_zero, List.set_cons_succ, i64_w, i32_w]
            rfl
          refine pure_ (i := 6) (N := some 26) (v := ?_) (a' := ?_) #[true, true, true, true, true, true, true] rfl rfl (by kernel_rfl) (fun _ _ _ h => h) (Or.inl ⟨by rfl, ?_⟩) ?_ ?_
          rotate_left
          · intro w'
            go_simp
            with_reducible rfl
          rotate_left
          · simp only [Act.put, List.setIfInBounds_toArray, List.set_cons_zero, List.set_cons_succ, i64_w, i32_w]
            rfl
          refine done_ (by kernel_rfl) ?_
          have hcz104_0 : w103.cell? ⟨gb539, 0, none⟩ = some (.int .i64 t531) := (blk_cell BK539.out 0).trans rfl
          have hcz104_1 : w103.cell? ⟨gb539, 1, none⟩ = some (.int .i64 t532) := (blk_cell BK539.out 1).trans rfl
          have hcz104_2 : w103.cell? ⟨gb539, 2, none⟩ = some (.slice Ao96 t533.length co96) := (blk_cell BK539.out 2).trans rfl
          have hcz104_3 : w103.cell? ⟨gb539, 3, none⟩ = some (.slice Ao97 t536.length co97) := (blk_cell BK539.out 3).trans rfl
          have hfz104_0 := blk_frozen BK539.out 0
          have hfz104_1 := blk_frozen BK539.out 1
          have hfz104_2 := blk_frozen BK539.out 2
          have hfz104_3 := blk_frozen BK539.out 3
          try go_wp2_with (first | ((with_reducible refine gate_callee (f := 43) rfl ?_); refine goesL_ (some 32) rfl rfl Try.func43 (by kernel_rfl) rfl #[.agg #[.int .i64 t531, .int .i64 t532, .slice Ao96 t533.length co96, .slice Ao97 t536.length co97]] rfl (by (try simp only [List.map_toArray, List.map_cons, List.map_nil]); first | done | rfl | (simp only [List.length_drop, List.length_take]; rfl)) ?_; (with_reducible refine (impl_LoopValid.calls k t531 t532 _ _ t533 _ _ t536 false _ ?side1 ?side2 ?side3 ?side4 A25.out).mono ?_); (case side1 => repeat (first | exact (Kd.S_reads' HO535.out).2.2 | (with_reducible refine Kd.C_alloc ?_ _) | (with_reducible refine Kd.C_drewN ?_ _) | (with_reducible refine Kd.C_drew ?_))); (case side2 => exact (Kd.S_reads' HO535.out).2.1); (case side3 => repeat (first | exact (Kd.S_reads' HO538.out).2.2 | (with_reducible refine Kd.C_alloc ?_ _) | (with_reducible refine Kd.C_drewN ?_ _) | (with_reducible refine Kd.C_drew ?_))); (case side4 => exact (Kd.S_reads' HO538.out).2.1); rintro e w105 ⟨rfl, hb⟩; refine ⟨_, rfl, ?_⟩; have n0_ := Aside0.mk (Kd.Q_below (by (with_reducible repeat (first | apply Kd.Q_alloc | apply Kd.Q_drewN | apply Kd.Q_drew)); exact HO530.out) hb); have n1_ := Aside0.mk (Kd.S_below (by (with_reducible repeat (first | apply Kd.S_alloc | apply Kd.S_drewN | apply Kd.S_drew)); exact HO535.out) hb); have n2_ := Aside0.mk (Kd.S_below (by (with_reducible repeat (first | apply Kd.S_alloc | apply Kd.S_drewN | apply Kd.S_drew)); exact HO538.out) hb); have n3_ := Aside0.mk (Kd.S_below (by (with_reducible repeat (first | apply Kd.S_alloc | apply Kd.S_drewN | apply Kd.S_drew)); exact HO544.out) hb); have n4_ := Aside0.mk (Kd.S_below (by (with_reducible repeat (first | apply Kd.S_alloc | apply Kd.S_drewN | apply Kd.S_drew)); exact HO547.out) hb); have n5_ := Aside0.mk (blk_below (g := gb539) (o := .cells #[.int .i64 t531, .int .i64 t532, .slice Ao96 t533.length co96, .slice Ao97 t536.length co97] 27 (0, 0)) (by (with_reducible repeat (first | refine blk_drewN ?_ _ | refine blk_drew ?_ | refine blk_alloc ?_ _)); exact BK539.out) hb); have n6_ := Aside0.mk (below_step (by repeat (first | (with_reducible first | exact HB.out | apply below_alloc | apply pw_below_drewN | apply below_drew1 | refine below_set ?_ GE539.out) | exact HB.out)) hb); clear HO530; clear HO535; clear HO538; clear HO544; clear HO547; clear BK539; clear HB; have HO530 := n0_; have HO535 := n1_; have HO538 := n2_; have HO544 := n3_; have HO547 := n4_; have BK539 := n5_; have HB := n6_; clear n0_ n1_ n2_ n3_ n4_ n5_ n6_; (try clear hb); (try clear hb2); (try clear hk); (try clear hi)))
          go_ret
          exact ⟨by first | rfl | (simp [errW_none, errW_some] <;> rfl) | (simp [*, errW_none, errW_some] <;> rfl), by repeat (first | (with_reducible first | exact HB.out | apply below_alloc | apply pw_below_drewN | apply below_drew1 | refine below_set ?_ GE539.out) | exact HB.out)⟩
    · replace c7 := Bool.eq_false_iff.mpr c7
      subst c7
      have H1 : (some false) = some r := by rw [if_neg (show ¬ (false = true) by decide)] at H; exact H
      clear H
      have H := H1
      clear H1
      obtain rfl := Option.some.inj H
      go_enter Try.func8, Try.ntmps8
      try go_wp2_with (first | ((with_reducible refine gate_callee (f := 39) rfl ?_); refine goesL_ (some 12) rfl rfl Try.func39 (by kernel_rfl) rfl #[.slice A0 l0.length c0] rfl (by (try simp only [List.map_toArray, List.map_cons, List.map_nil]); first | done | rfl | (simp only [List.length_drop, List.length_take]; rfl)) ?_; (with_reducible refine (spec_DrawLoopAround.calls k _ _ l0 t526 t527 t528 _ ?side1 ?side2 A3.out).mono ?_); (case side1 => repeat (first | exact HR0.out | (with_reducible refine Kd.C_alloc ?_ _) | (with_reducible refine Kd.C_drewN ?_ _) | (with_reducible refine Kd.C_drew ?_))); (case side2 => exact HC0.out); rintro e w106 ⟨v529, rfl, ho0, hb⟩; refine ⟨_, rfl, ?_⟩; have n0_ := Aside0.mk (Kd.Q_lower ho0 (below_size (by repeat (first | (with_reducible first | exact HB.out | apply below_alloc | apply pw_below_drewN | apply below_drew1) | exact HB.out)))); have n1_ := Aside0.mk (below_step (by repeat (first | (with_reducible first | exact HB.out | apply below_alloc | apply pw_below_drewN | apply below_drew1) | exact HB.out)) hb); clear HB; have HO530 := n0_; have HB := n1_; clear n0_ n1_; (try clear hb); (try clear hb2); (try clear hk); (try clear hi); (try clear ho0); obtain ⟨Ao107, co107, eo107, _⟩ := Kd.Q_slice HO530.out; subst eo107) | ((with_reducible refine gate_callee (f := 40) rfl ?_); refine goesL_ (some 19) rfl rfl Try.func40 (by kernel_rfl) rfl #[.int .i64 t526, .int .i64 t527, .slice Ao107 t528.length co107] rfl (by (try simp only [List.map_toArray, List.map_cons, List.map_nil]); first | done | rfl | (simp only [List.length_drop, List.length_take]; rfl)) ?_; (with_reducible refine (impl_LoopAround.calls k t526 t527 _ _ t528 t531 t532 t533 t536 _ ?side1 ?side2 A4.out).mono ?_); (case side1 => repeat (first | exact (Kd.Q_reads' HO530.out).2.2 | (with_reducible refine Kd.C_alloc ?_ _) | (with_reducible refine Kd.C_drewN ?_ _) | (with_reducible refine Kd.C_drew ?_))); (case side2 => exact (Kd.Q_reads' HO530.out).2.1); rintro e w108 ⟨v534, v537, rfl, ho0, ho1, hb⟩; refine ⟨_, rfl, ?_⟩; have n0_ := Aside0.mk (Kd.Q_below (by (with_reducible repeat (first | apply Kd.Q_alloc | apply Kd.Q_drewN | apply Kd.Q_drew)); exact HO530.out) hb); have n1_ := Aside0.mk (Kd.S_lower (Kd.S_new' ho0 (Kd.Q_lt (by (with_reducible repeat (first | apply Kd.Q_alloc | apply Kd.Q_drewN | apply Kd.Q_drew)); exact HO530.out))) (below_size (by repeat (first | (with_reducible first | exact HB.out | apply below_alloc | apply pw_below_drewN | apply below_drew1) | exact HB.out)))); have n2_ := Aside0.mk (Kd.S_lower (Kd.S_new' ho1 (Kd.Q_lt (by (with_reducible repeat (first | apply Kd.Q_alloc | apply Kd.Q_drewN | apply Kd.Q_drew)); exact HO530.out))) (below_size (by repeat (first | (with_reducible first | exact HB.out | apply below_alloc | apply pw_below_drewN | apply below_drew1) | exact HB.out)))); have n3_ := Aside0.mk (below_step (by repeat (first | (with_reducible first | exact HB.out | apply below_alloc | apply pw_below_drewN | apply below_drew1) | exact HB.out)) hb); clear HO530; clear HB; have HO530 := n0_; have HO535 := n1_; have HO538 := n2_; have HB := n3_; clear n0_ n1_ n2_ n3_; (try clear hb); (try clear hb2); (try clear hk); (try clear hi); (try clear ho0); (try clear ho1)) | ((with_reducible refine gate_dst (N := 6) rfl ?_); refine box_event ?hg (N := 6) ?hd (cs := #[.int .i64 0, .int .i64 0, .slice none 0 0, .slice none 0 0]) (t := 27) ?hr ?_; (case hd => rfl); (case hg => rfl); (case hr => first | (go_simp; done) | (go_simp; rfl)); intro gb539 hg w109 hbox hb; have n0_ := Aside0.mk (Kd.Q_below (by (with_reducible repeat (first | apply Kd.Q_alloc | apply Kd.Q_drewN | apply Kd.Q_drew)); exact HO530.out) hb); have n1_ := Aside0.mk (Kd.S_below (by (with_reducible repeat (first | apply Kd.S_alloc | apply Kd.S_drewN | apply Kd.S_drew)); exact HO535.out) hb); have n2_ := Aside0.mk (Kd.S_below (by (with_reducible repeat (first | apply Kd.S_alloc | apply Kd.S_drewN | apply Kd.S_drew)); exact HO538.out) hb); have n3_ := Aside0.mk (below_step (by repeat (first | (with_reducible first | exact HB.out | apply below_alloc | apply pw_below_drewN | apply below_drew1) | exact HB.out)) hb); have n4_ := Aside0.mk (hbox); have n5_ := Aside0.mk ((by rw [hg]; exact (below_size (by repeat (first | (with_reducible first | exact HB.out | apply below_alloc | apply pw_below_drewN | apply below_drew1) | exact HB.out))) : w.heap.size ≤ gb539)); have n6_ := Aside0.mk ((by rw [hg]; exact (below_size (by repeat (first | (with_reducible first | exact HB.out | apply below_alloc | apply pw_below_drewN | apply below_drew1) | exact HB.out))) : w.heap.size ≤ gb539)); clear HO530; clear HO535; clear HO538; clear HB; have HO530 := n0_; have HO535 := n1_; have HO538 := n2_; have HB := n3_; have BK539 := n4_; have GW539 := n5_; have GE539 := n6_; clear n0_ n1_ n2_ n3_ n4_ n5_ n6_; clear hb hbox hg; have hcz110_0 : w109.cell? ⟨gb539, 0, none⟩ = some (.int .i64 0) := (blk_cell BK539.out 0).trans rfl; have hcz110_1 : w109.cell? ⟨gb539, 1, none⟩ = some (.int .i64 0) := (blk_cell BK539.out 1).trans rfl; have hcz110_2 : w109.cell? ⟨gb539, 2, none⟩ = some (.slice none 0 0) := (blk_cell BK539.out 2).trans rfl; have hcz110_3 : w109.cell? ⟨gb539, 3, none⟩ = some (.slice none 0 0) := (blk_cell BK539.out 3).trans rfl; have hfz110_0 := blk_frozen BK539.out 0; have hfz110_1 := blk_frozen BK539.out 1; have hfz110_2 := blk_frozen BK539.out 2; have hfz110_3 := blk_frozen BK539.out 3; obtain ⟨Ao111, co111, eo111⟩ := Kd.S_slice HO535.out; subst eo111; obtain ⟨Ao112, co112, eo112⟩ := Kd.S_slice HO538.out; subst eo112))
      have n0_ : Aside0 (Kd.Q Kd.bool 4 ((((w109.setCell ⟨gb539, 0, none⟩ (.int .i64 t531)).setCell ⟨gb539, 1, none⟩ (.int .i64 t532)).setCell ⟨gb539, 2, none⟩ (.slice Ao111 t533.length co111)).setCell ⟨gb539, 3, none⟩ (.slice Ao112 t536.length co112)) w.heap.size (fun _ => True) (.slice Ao107 t528.length co107) t528) := ⟨by (with_reducible repeat (first | apply Kd.Q_alloc | apply Kd.Q_drewN | apply Kd.Q_drew)); exact Kd.Q_mono (Kd.Q_far (p := ⟨gb539, 3, none⟩) (Kd.Q_far (p := ⟨gb539, 2, none⟩) (Kd.Q_far (p := ⟨gb539, 1, none⟩) (Kd.Q_far (p := ⟨gb539, 0, none⟩) (Kd.Q_types HO530.out BK539.out (by decide)) (fun _ hk => hk.2) (.int .i64 t531)) (fun _ hk => hk.2) (.int .i64 t532)) (fun _ hk => hk.2) (.slice Ao111 t533.length co111)) (fun _ hk => hk.2) (.slice Ao112 t536.length co112)) (fun _ hk => trivial)⟩
      have n1_ : Aside0 (Kd.S (Kd.slice 4 Kd.bool) 45 ((((w109.setCell ⟨gb539, 0, none⟩ (.int .i64 t531)).setCell ⟨gb539, 1, none⟩ (.int .i64 t532)).setCell ⟨gb539, 2, none⟩ (.slice Ao111 t533.length co111)).setCell ⟨gb539, 3, none⟩ (.slice Ao112 t536.length co112)) w.heap.size (fun k_ => some k_ ≠ (.slice Ao107 t528.length co107 : Value).ownBlock ∧ some k_ ≠ (.slice Ao112 t536.length co112 : Value).ownBlock) (.slice Ao111 t533.length co111) t533) := ⟨by (with_reducible repeat (first | apply Kd.S_alloc | apply Kd.S_drewN | apply Kd.S_drew)); exact Kd.S_mono (Kd.S_far (p := ⟨gb539, 3, none⟩) (Kd.S_far (p := ⟨gb539, 2, none⟩) (Kd.S_far (p := ⟨gb539, 1, none⟩) (Kd.S_far (p := ⟨gb539, 0, none⟩) (Kd.S_types HO535.out BK539.out (by decide)) (fun _ hk => hk.2) (.int .i64 t531)) (fun _ hk => hk.2) (.int .i64 t532)) (fun _ hk => hk.2) (.slice Ao111 t533.length co111)) (fun _ hk => hk.2) (.slice Ao112 t536.length co112)) (fun _ hk => ⟨hk.1.2, hk.1.1⟩)⟩
      have n2_ : Aside0 (Kd.S (Kd.slice 4 Kd.bool) 45 ((((w109.setCell ⟨gb539, 0, none⟩ (.int .i64 t531)).setCell ⟨gb539, 1, none⟩ (.int .i64 t532)).setCell ⟨gb539, 2, none⟩ (.slice Ao111 t533.length co111)).setCell ⟨gb539, 3, none⟩ (.slice Ao112 t536.length co112)) w.heap.size (fun k_ => some k_ ≠ (.slice Ao107 t528.length co107 : Value).ownBlock ∧ some k_ ≠ (.slice Ao111 t533.length co111 : Value).ownBlock) (.slice Ao112 t536.length co112) t536) := ⟨by (with_reducible repeat (first | apply Kd.S_alloc | apply Kd.S_drewN | apply Kd.S_drew)); exact Kd.S_mono (Kd.S_far (p := ⟨gb539, 3, none⟩) (Kd.S_far (p := ⟨gb539, 2, none⟩) (Kd.S_far (p := ⟨gb539, 1, none⟩) (Kd.S_far (p := ⟨gb539, 0, none⟩) (Kd.S_types HO538.out BK539.out (by decide)) (fun _ hk => hk.2) (.int .i64 t531)) (fun _ hk => hk.2) (.int .i64 t532)) (fun _ hk => hk.2) (.slice Ao111 t533.length co111)) (fun _ hk => hk.2) (.slice Ao112 t536.length co112)) (fun _ hk => ⟨hk.1.2, hk.1.1⟩)⟩
      have n3_ : Aside0 (((((w109.setCell ⟨gb539, 0, none⟩ (.int .i64 t531)).setCell ⟨gb539, 1, none⟩ (.int .i64 t532)).setCell ⟨gb539, 2, none⟩ (.slice Ao111 t533.length co111)).setCell ⟨gb539, 3, none⟩ (.slice Ao112 t536.length co112)).heap[gb539]? = some (.cells #[.int .i64 t531, .int .i64 t532, .slice Ao111 t533.length co111, .slice Ao112 t536.length co112] 27 (0, 0))) := ⟨by (with_reducible repeat (first | refine blk_drewN ?_ _ | refine blk_drew ?_ | refine blk_alloc ?_ _)); refine blk_put (cs := #[.int .i64 t531, .int .i64 t532, .slice Ao111 t533.length co111, .slice none 0 0]) ?_ 3 _ rfl; (with_reducible repeat (first | refine blk_drewN ?_ _ | refine blk_drew ?_ | refine blk_alloc ?_ _)); refine blk_put (cs := #[.int .i64 t531, .int .i64 t532, .slice none 0 0, .slice none 0 0]) ?_ 2 _ rfl; (with_reducible repeat (first | refine blk_drewN ?_ _ | refine blk_drew ?_ | refine blk_alloc ?_ _)); refine blk_put (cs := #[.int .i64 t531, .int .i64 0, .slice none 0 0, .slice none 0 0]) ?_ 1 _ rfl; (with_reducible repeat (first | refine blk_drewN ?_ _ | refine blk_drew ?_ | refine blk_alloc ?_ _)); refine blk_put (cs := #[.int .i64 0, .int .i64 0, .slice none 0 0, .slice none 0 0]) ?_ 0 _ rfl; (with_reducible repeat (first | refine blk_drewN ?_ _ | refine blk_drew ?_ | refine blk_alloc ?_ _)); exact BK539.out⟩
      have n4_ : Aside0 (Below w.heap.size w ((((w109.setCell ⟨gb539, 0, none⟩ (.int .i64 t531)).setCell ⟨gb539, 1, none⟩ (.int .i64 t532)).setCell ⟨gb539, 2, none⟩ (.slice Ao111 t533.length co111)).setCell ⟨gb539, 3, none⟩ (.slice Ao112 t536.length co112))) := ⟨by repeat (first | (with_reducible first | exact HB.out | apply below_alloc | apply pw_below_drewN | apply below_drew1 | refine below_set ?_ GE539.out) | exact HB.out)⟩
      (try clear HO530)
      (try clear HO535)
      (try clear HO538)
      (try clear BK539)
      (try clear HB)
      generalize ((((w109.setCell ⟨gb539, 0, none⟩ (.int .i64 t531)).setCell ⟨gb539, 1, none⟩ (.int .i64 t532)).setCell ⟨gb539, 2, none⟩ (.slice Ao111 t533.length co111)).setCell ⟨gb539, 3, none⟩ (.slice Ao112 t536.length co112)) = w113 at n0_ n1_ n2_ n3_ n4_ ⊢
      have HO530 := n0_
      have HO535 := n1_
      have HO538 := n2_
      have BK539 := n3_
      have HB := n4_
      clear n0_ n1_ n2_ n3_ n4_
      have n0_ := Aside0.mk (Kd.Q_drew HO530.out)
      have n1_ := Aside0.mk (Kd.S_drew HO535.out)
      have n2_ := Aside0.mk (Kd.S_drew HO538.out)
      have n3_ := Aside0.mk (blk_drew BK539.out)
      have n4_ := Aside0.mk (below_drew1 HB.out)
      clear HO530
      clear HO535
      clear HO538
      clear BK539
      clear HB
      have HO530 := n0_
      have HO535 := n1_
      have HO538 := n2_
      have BK539 := n3_
      have HB := n4_
      clear n0_ n1_ n2_ n3_ n4_
      refine start_ (n := 7) (S := fun w' => w'.cell? ⟨gb539, 0, none⟩ = some (.int .i64 t531) ∧ w'.cell? ⟨gb539, 1, none⟩ = some (.int .i64 t532) ∧ w'.cell? ⟨gb539, 2, none⟩ = some (.slice Ao111 t533.length co111) ∧ w'.cell? ⟨gb539, 3, none⟩ = some (.slice Ao112 t536.length co112)) (ds := []) #[false, false, false, false, false, false, false] (by kernel_rfl) rfl rfl ⟨(blk_cell BK539.out 0).trans rfl, (blk_cell BK539.out 1).trans rfl, (blk_cell BK539.out 2).trans rfl, (blk_cell BK539.out 3).trans rfl⟩ (fun hHeld => ?_)
      generalize w113.drew = w114 at HO530 HO535 HO538 BK539 HB hHeld ⊢
      refine pure_ (i := 1) (N := some 21) (v := ?_) (a' := ?_) #[false, true, false, false, false, false, false] rfl rfl (by kernel_rfl) (fun _ _ _ h => h) (Or.inl ⟨by rfl, ?_⟩) ?_ ?_
      rotate_left
      · intro w'
        go_simp
        with_reducible rfl
      rotate_left
      · simp only [Act.put, List.setIfInBounds_toArray, List.set_cons_zero, List.set_cons_succ, i64_w, i32_w]
        rfl
      refine pure_ (i := 2) (N := some 22) (v := ?_) (a' := ?_) #[false, true, true, false, false, false, false] rfl rfl (by kernel_rfl) (fun _ _ _ h => h) (Or.inl ⟨by rfl, ?_⟩) ?_ ?_
      rotate_left
      · intro w'
        go_simp
        with_reducible rfl
      rotate_left
      · simp only [Act.put, List.setIfInBounds_toArray, List.set_cons_zero, List.set_cons_succ, i64_w, i32_w]
        rfl
      refine pure_ (i := 3) (N := some 23) (v := ?_) (a' := ?_) #[false, true, true, true, false, false, false] rfl rfl (by kernel_rfl) (fun _ _ _ h => h) (Or.inl ⟨by rfl, ?_⟩) ?_ ?_
      rotate_left
      · intro w'
        go_simp
        with_reducible rfl
      rotate_left
      · simp only [Act.put, List.setIfInBounds_toArray, List.set_cons_zero, List.set_cons_succ, i64_w, i32_w]
        rfl
      refine take_ (i := 0) (N := some 20) (v := ?_) (a' := ?_) #[true, true, true, true, false, false, false] rfl rfl (by kernel_rfl) (fun _ _ _ h => h) (Or.inl ⟨by rfl, ?_⟩) hHeld ?_ ?_
      rotate_left
      · rintro w' ⟨s0, s1, s2, s3⟩
        go_simp
        with_reducible rfl
      rotate_left
      · simp only [Act.put, List.setIfInBounds_toArray, List.set_cons_zero, List.set_cons_succ, i64_w, i32_w]
        rfl
      refine one_ (i := 4) (N := some 24) #[true, true, true, true, true, false, false] rfl rfl (by kernel_rfl) (by decide) (fun K hK => ?_)
      refine goes_ Try.func42 (by kernel_rfl) rfl #[.int .i64 t526, .int .i64 t527, .slice Ao107 t528.length co107] (by rfl) rfl rfl (by (try simp only [List.map_toArray, List.map_cons, List.map_nil]); first | done | rfl | (simp only [List.length_drop, List.length_take]; rfl)) ?_
      with_reducible refine (spec_LoopAround.calls k t526 t527 _ _ t528 t540 t541 t542 t545 _ ?side1 ?side2 A5.out).mono ?_
      (case side1 => repeat (first | exact (Kd.Q_reads' HO530.out).2.2 | (with_reducible refine Kd.C_alloc ?_ _) | (with_reducible refine Kd.C_drewN ?_ _) | (with_reducible refine Kd.C_drew ?_)))
      (case side2 => exact (Kd.Q_reads' HO530.out).2.1)
      rintro e w115 ⟨v543, v546, rfl, ho0, ho1, hb⟩
      refine ⟨_, rfl, ?_⟩
      have n0_ := Aside0.mk (Kd.Q_below (by (with_reducible repeat (first | apply Kd.Q_alloc | apply Kd.Q_drewN | apply Kd.Q_drew)); exact HO530.out) hb)
      have n1_ := Aside0.mk (Kd.S_mono (Kd.S_told (Kd.S_told (Kd.S_old (by (with_reducible repeat (first | apply Kd.S_alloc | apply Kd.S_drewN | apply Kd.S_drew)); exact HO535.out) hb) (Kd.S_base ho0)) (Kd.S_base ho1)) (fun _ h_ => h_.1))
      have n2_ := Aside0.mk (Kd.S_mono (Kd.S_told (Kd.S_told (Kd.S_old (by (with_reducible repeat (first | apply Kd.S_alloc | apply Kd.S_drewN | apply Kd.S_drew)); exact HO538.out) hb) (Kd.S_base ho0)) (Kd.S_base ho1)) (fun _ h_ => h_.1))
      have n3_ := Aside0.mk (Kd.S_lower (Kd.S_new' (Kd.S_new' (Kd.S_new' ho0 (Kd.Q_lt (by (with_reducible repeat (first | apply Kd.Q_alloc | apply Kd.Q_drewN | apply Kd.Q_drew)); exact HO530.out))) (Kd.S_lt (by (with_reducible repeat (first | apply Kd.S_alloc | apply Kd.S_drewN | apply Kd.S_drew)); exact HO535.out))) (Kd.S_lt (by (with_reducible repeat (first | apply Kd.S_alloc | apply Kd.S_drewN | apply Kd.S_drew)); exact HO538.out))) (below_size (by repeat (first | (with_reducible first | exact HB.out | apply below_alloc | apply pw_below_drewN | apply below_drew1 | refine below_set ?_ GE539.out) | exact HB.out))))
      have n4_ := Aside0.mk (Kd.S_lower (Kd.S_new' (Kd.S_new' (Kd.S_new' ho1 (Kd.Q_lt (by (with_reducible repeat (first | apply Kd.Q_alloc | apply Kd.Q_drewN | apply Kd.Q_drew)); exact HO530.out))) (Kd.S_lt (by (with_reducible repeat (first | apply Kd.S_alloc | apply Kd.S_drewN | apply Kd.S_drew)); exact HO535.out))) (Kd.S_lt (by (with_reducible repeat (first | apply Kd.S_alloc | apply Kd.S_drewN | apply Kd.S_drew)); exact HO538.out))) (below_size (by repeat (first | (with_reducible first | exact HB.out | apply below_alloc | apply pw_below_drewN | apply below_drew1 | refine below_set ?_ GE539.out) | exact HB.out))))
      have n5_ := Aside0.mk (blk_below (g := gb539) (o := .cells #[.int .i64 t531, .int .i64 t532, .slice Ao111 t533.length co111, .slice Ao112 t536.length co112] 27 (0, 0)) (by (with_reducible repeat (first | refine blk_drewN ?_ _ | refine blk_drew ?_ | refine blk_alloc ?_ _)); exact BK539.out) hb)
      have n6_ := Aside0.mk (below_step (by repeat (first | (with_reducible first | exact HB.out | apply below_alloc | apply pw_below_drewN | apply below_drew1 | refine below_set ?_ GE539.out) | exact HB.out)) hb)
      clear HO530
      clear HO535
      clear HO538
      clear BK539
      clear HB
      have HO530 := n0_
      have HO535 := n1_
      have HO538 := n2_
      have HO544 := n3_
      have HO547 := n4_
      have BK539 := n5_
      have HB := n6_
      clear n0_ n1_ n2_ n3_ n4_ n5_ n6_
      (try clear hb)
      (try clear hb2)
      (try clear hk)
      (try clear hi)
      (try clear ho0)
      (try clear ho1)
      obtain ⟨Ao116, co116, eo116⟩ := Kd.S_slice HO544.out
      (first | subst eo116 | (injection eo116 with f1_ f2_ f3_; have f4_ := f1_.symm; have f5_ := f3_.symm; clear f1_ f2_ f3_; subst f4_; subst f5_))
      obtain ⟨Ao117, co117, eo117⟩ := Kd.S_slice HO547.out
      (first | subst eo117 | (injection eo117 with f1_ f2_ f3_; have f4_ := f1_.symm; have f5_ := f3_.symm; clear f1_ f2_ f3_; subst f4_; subst f5_))
      refine hK.out _ _ ⟨(blk_cell BK539.out 0).trans rfl, (blk_cell BK539.out 1).trans rfl, (blk_cell BK539.out 2).trans rfl, (blk_cell BK539.out 3).trans rfl⟩ (fun hHeld => ?_)
      clear hK K
      refine norm_ (a' := ?_) ?_ ?_
      rotate_left
      · show Act.put _ (some 24) _ = _
        simp only [Act.put, List.setIfInBounds_toArray, List.set_cons_zero, List.set_cons_succ, i64_w, i32_w]
        rfl
      refine one_ (i := 5) (N := some 25) #[true, true, true, true, true, true, false] rfl rfl (by kernel_rfl) (by decide) (fun K hK => ?_)
      refine goes_ Try.func41 (by kernel_rfl) rfl #[.agg #[.int .i64 t531, .int .i64 t532, .slice Ao111 t533.length co111, .slice Ao112 t536.length co112], .agg #[.int .i64 t540, .int .i64 t541, .slice Ao116 t542.length co116, .slice Ao117 t545.length co117]] (by rfl) rfl rfl (by (try simp only [List.map_toArray, List.map_cons, List.map_nil]); first | done | rfl | (simp only [List.length_drop, List.length_take]; rfl)) ?_
      with_reducible refine (laws_sameLoop.calls k t531 t532 _ _ t533 _ _ t536 t540 t541 _ _ t542 _ _ t545 false _ ?side1 ?side2 ?side3 ?side4 ?side5 ?side6 ?side7 ?side8 A6.out).mono ?_
      (case side1 => repeat (first | exact (Kd.S_reads' HO535.out).2.2 | (with_reducible refine Kd.C_alloc ?_ _) | (with_reducible refine Kd.C_drewN ?_ _) | (with_reducible refine Kd.C_drew ?_)))
      (case side2 => exact (Kd.S_reads' HO535.out).2.1)
      (case side3 => repeat (first | exact (Kd.S_reads' HO538.out).2.2 | (with_reducible refine Kd.C_alloc ?_ _) | (with_reducible refine Kd.C_drewN ?_ _) | (with_reducible refine Kd.C_drew ?_)))
      (case side4 => exact (Kd.S_reads' HO538.out).2.1)
      (case side5 => repeat (first | exact (Kd.S_reads' HO544.out).2.2 | (with_reducible refine Kd.C_alloc ?_ _) | (with_reducible refine Kd.C_drewN ?_ _) | (with_reducible refine Kd.C_drew ?_)))
      (case side6 => exact (Kd.S_reads' HO544.out).2.1)
      (case side7 => repeat (first | exact (Kd.S_reads' HO547.out).2.2 | (with_reducible refine Kd.C_alloc ?_ _) | (with_reducible refine Kd.C_drewN ?_ _) | (with_reducible refine Kd.C_drew ?_)))
      (case side8 => exact (Kd.S_reads' HO547.out).2.1)
      rintro e w118 ⟨rfl, hb⟩
      refine ⟨_, rfl, ?_⟩
      have n0_ := Aside0.mk (Kd.Q_below (by (with_reducible repeat (first | apply Kd.Q_alloc | apply Kd.Q_drewN | apply Kd.Q_drew)); exact HO530.out) hb)
      have n1_ := Aside0.mk (Kd.S_below (by (with_reducible repeat (first | apply Kd.S_alloc | apply Kd.S_drewN | apply Kd.S_drew)); exact HO535.out) hb)
      have n2_ := Aside0.mk (Kd.S_below (by (with_reducible repeat (first | apply Kd.S_alloc | apply Kd.S_drewN | apply Kd.S_drew)); exact HO538.out) hb)
      have n3_ := Aside0.mk (Kd.S_below (by (with_reducible repeat (first | apply Kd.S_alloc | apply Kd.S_drewN | apply Kd.S_drew)); exact HO544.out) hb)
      have n4_ := Aside0.mk (Kd.S_below (by (with_reducible repeat (first | apply Kd.S_alloc | apply Kd.S_drewN | apply Kd.S_drew)); exact HO547.out) hb)
      have n5_ := Aside0.mk (blk_below (g := gb539) (o := .cells #[.int .i64 t531, .int .i64 t532, .slice Ao111 t533.length co111, .slice Ao112 t536.length co112] 27 (0, 0)) (by (with_reducible repeat (first | refine blk_drewN ?_ _ | refine blk_drew ?_ | refine blk_alloc ?_ _)); exact BK539.out) hb)
      have n6_ := Aside0.mk (below_step (by repeat (first | (with_reducible first | exact HB.out | apply below_alloc | apply pw_below_drewN | apply below_drew1 | refine below_set ?_ GE539.out) | exact HB.out)) hb)
      clear HO530
      clear HO535
      clear HO538
      clear HO544
      clear HO547
      clear BK539
      clear HB
      have HO530 := n0_
      have HO535 := n1_
      have HO538 := n2_
      have HO544 := n3_
      have HO547 := n4_
      have BK539 := n5_
      have HB := n6_
      clear n0_ n1_ n2_ n3_ n4_ n5_ n6_
      (try clear hb)
      (try clear hb2)
      (try clear hk)
      (try clear hi)
      refine hK.out _ _ ⟨(blk_cell BK539.out 0).trans rfl, (blk_cell BK539.out 1).trans rfl, (blk_cell BK539.out 2).trans rfl, (blk_cell BK539.out 3).trans rfl⟩ (fun hHeld => ?_)
      clear hK K
      refine norm_ (a' := ?_) ?_ ?_
      rotate_left
      · show Act.put _ (some 25) _ = _
        simp only [Act.put, List.setIfInBounds_toArray, List.set_cons_zero, List.set_cons_succ, i64_w, i32_w]
        rfl
      refine pure_ (i := 6) (N := some 26) (v := ?_) (a' := ?_) #[true, true, true, true, true, true, true] rfl rfl (by kernel_rfl) (fun _ _ _ h => h) (Or.inl ⟨by rfl, ?_⟩) ?_ ?_
      rotate_left
      · intro w'
        go_simp
        with_reducible rfl
      rotate_left
      · simp only [Act.put, List.setIfInBounds_toArray, List.set_cons_zero, List.set_cons_succ, i64_w, i32_w]
        rfl
      refine done_ (by kernel_rfl) ?_
      try go_wp2
      go_ret
      exact ⟨by first | rfl | (simp [errW_none, errW_some] <;> rfl) | (simp [*, errW_none, errW_some] <;> rfl), by repeat (first | (with_reducible first | exact HB.out | apply below_alloc | apply pw_below_drewN | apply below_drew1 | refine below_set ?_ GE539.out) | exact HB.out)⟩

/-- THE ONE PURE STATEMENT of laws_FnLoopAround: yours. -/
def laws_FnLoopAround.Pure : Prop := ∀ (l0 : List Int), l0.length ≤ maxLen → l0.length * 1 ≤ 140737488351232 → (∀ x ∈ l0, (Lit.int .u8 x).wf = true) → ∃ k, laws_FnLoopAround.f k l0 = some true
theorem laws_FnLoopAround.walk (P : laws_FnLoopAround.Pure) (a0 : Option Addr) (len0 cap0 : Nat) (z0 : List Int) (w : World) (w0 : (a0 = none ∧ len0 = 0 ∧ cap0 = 0 ∧ z0 = []) ∨ ∃ x, a0 = some x ∧ len0 ≤ cap0 ∧ cap0 ≤ maxLen ∧ z0.length = cap0 ∧ (∀ i, i < z0.length → w.cell? (x.add i) = some (.int .u8 (z0.getD i 0))) ∧ ∀ n ∈ z0, (Lit.int .u8 n).wf = true) (y0 : len0 * 1 ≤ 140737488351232) :
    Calls Try.prog 8 #[.slice a0 len0 cap0] w fun e w' => e = .returned (.bool true) ∧ Below w.heap.size w w' := by
  obtain ⟨l0, rfl, hr0, hm0, hw0, hc0⟩ := ReadsInt.ofRowC w0
  obtain ⟨k, h⟩ := P l0 hm0 y0 hw0
  refine (laws_FnLoopAround.calls k _ _ l0 true w (Kd.C_of_reads (d := (0 : Int)) (h1 := fun _ => rfl) hr0) hc0 h).mono ?_
  rintro e w' ⟨rfl, hd⟩
  exact ⟨rfl, hd⟩

end Go.Proofs.Ytdinbpfklikghaa.PLoops
