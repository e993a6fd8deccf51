/- The row of the law FnExactLoopInside, over its pure statement: a field of edges that came in. No conditions. -/
import Derived.Test.YtncmneliinbjdaaFx
import Derived.Test.YtncmneliinbjdaaRows
import Derived.Test.YtncmneliinbjdaaPureFnExactLoopInside
import Derived.WalkKit
import Derived.ProofKit
import Derived.OpenShut
import Derived.ChangeOld
import Derived.Below
import Derived.SizedLaws
import Derived.Deep.Grids
import Derived.Lib.SmallJoins
namespace Go.Proofs.Ytncmneliinbjdaa.fnExactLoopInside
open Go.ChangeShapes Go.WideShapes Go.ChangeAt Go.RowKit Go.Deep Go.Joins
open Go.Proofs.YtncmneliinbjdaaW.PrintWords
set_option linter.unusedVariables false
theorem own : ownKnob Try.prog.godebug = none := by kernel_rfl
theorem laidOut : laidOutB Try.prog = true := by kernel_rfl
theorem cellsRow : Try.prog.cellsOf 22 = 1 := by kernel_rfl
theorem cellsBool : Try.prog.cellsOf 4 = 1 := by kernel_rfl
/-- Rows of bools that came in, as the walk reads them. -/
theorem rows_read {H : Type} {W : World} {v : Value} {y : DataW H × List MemPlace} {enc : TypeId × Value → H} {fuel : Nat} (h : DataW.trod enc Try.prog W 0 (fun _ => true) true fuel 23 [v] = some y) :
    ∃ (A : Option Addr) (c : Nat) (l : List (List Bool)), v = .slice A l.length c ∧ l.length ≤ c ∧ Kd.C (Kd.slice 4 Kd.bool) W A l.length l ∧ l.length ≤ 9223372036854775807 ∧ ∀ x ∈ l, x.length ≤ 9223372036854775807 := by
  rcases open_bool_rows Try.underlying23 Try.underlying22 Try.underlying4 cellsRow cellsBool h with ⟨hcs, _⟩ | ⟨a, len, cap, A, L, C, B, hcs, _, hl, hm, _, hrow⟩
  · simp at hcs
    exact ⟨none, 0, [], hcs, Nat.le_refl _, Kd.C_nil _ _, by simp, by simp⟩
  · simp at hcs
    unfold maxLen at hm
    refine ⟨some a, cap, (List.range len).map fun r => (List.range (L r)).map (B r), by simp [hcs], by simpa using hl, ⟨rfl, by simp; omega, fun _ => ⟨a, rfl, fun j p hj => ?_⟩⟩, by simp; omega, ?_⟩
    · have hjl : j < len := by
        have := (List.getElem?_eq_some_iff.1 hj).1
        simpa using this
      have hp : p = (List.range (L j)).map (B j) := by
        rw [List.getElem?_map, List.getElem?_range hjl] at hj
        simpa using hj.symm
      subst hp
      obtain ⟨h1, h2, h3, h4, h5⟩ := hrow j (by omega)
      unfold maxLen at h3
      refine ⟨[.slice (A j) (L j) (C j)], rfl, ⟨A j, C j, by simp, by simpa using h2, ⟨rfl, by simp; omega, fun hpos => ?_⟩⟩, fun i u hu => ?_⟩
      · simp at hpos
        cases hA : A j with
        | none => have := h4 hA; omega
        | some a' =>
          refine ⟨a', rfl, fun i q hi => ?_⟩
          have hil : i < L j := by
            have := (List.getElem?_eq_some_iff.1 hi).1
            simpa using this
          have hq : q = B j i := by
            rw [List.getElem?_map, List.getElem?_range hil] at hi
            simpa using hi.symm
          subst hq
          refine ⟨[.bool (B j i)], rfl, rfl, fun t u hu => ?_⟩
          have h0 : t = 0 := by
            have := (List.getElem?_eq_some_iff.1 hu).1
            simp at this; exact this
          subst h0
          simp at hu; subst hu
          simpa [Kd.bool, Kd.scalar] using (h5 a' hA).2 i (by omega)
      · have h0 : i = 0 := by
          have := (List.getElem?_eq_some_iff.1 hu).1
          simp at this; exact this
        subst h0
        simp at hu; subst hu
        simpa [Kd.slice] using h1
    · intro x hx
      obtain ⟨r, hr, rfl⟩ := List.mem_map.1 hx
      obtain ⟨h1, h2, h3, _⟩ := hrow r (by have := List.mem_range.1 hr; omega)
      unfold maxLen at h3
      simp; omega
set_option maxRecDepth 100000 in
theorem lifted (os : Os) (started : os.Started) (H : Type) (enc : TypeId × Value → H) :
    ReturnsInHanded {} Try.checked os 5 .any (Rows.fnExactLoopInsideSpec.pre6 enc Try.prog Try.f5 Rows.fnExactLoopInsideRow.domain false) (Rows.fnExactLoopInsideSpec.post enc Try.prog Try.f5 false true false false) := by
  refine returnsInHanded_of_change_sized (C := Try.checked) own started (by kernel_rfl) Try.func5
    (ChangeSpec.witness6 (enc := enc) (C := Try.checked) false ⟨#[], #[.agg #[.int .i64 0, .int .i64 0, .slice none 0 0, .slice none 0 0]], []⟩ 8 (by kernel_rfl) (by kernel_rfl) (by kernel_rfl) (by kernel_rfl)) ?_
  intro W base args ds gs before hval0 hW hcnd hsz0 _
  have hval : ∀ (j : Nat) t v, Try.f5.params[j]? = some t → args[j]? = some v → Value.okWide Try.prog W .any base t v := hval0
  have hW' := hW
  obtain ⟨p, q, hA0, hV, rfl, hfz, hnd⟩ := hW
  have hA : DataW.TrodAll enc Try.prog W 0 (fun _ => true) true Try.f5.params.toList args.toList ds p := hA0
  rw [Try.params5] at hA hval
  obtain ⟨v0, vs0, d0, ds0, p0, q0, hargs, rfl, rfl, h0, r0⟩ := trodAll_cons hA
  obtain ⟨rfl, rfl, rfl⟩ := trodAll_nil r0
  obtain rfl : args = #[v0] := by cases args; simp_all
  obtain ⟨rfl, rfl⟩ := trodVars_none hV
  have k0 := h0
  have lt0 : ∀ x ∈ p0, x.block < W.heap.size := by obtain ⟨m, hm⟩ := k0; exact DataW.trod_lt m _ _ _ hm
  obtain ⟨u0, u1, u2, u3, y0, y1, y2, y3, n, rfl, hd, hp, t0, t1, t2, t3⟩ := open_agg4 Try.underlying33 (by kernel_rfl) (by kernel_rfl) (hval 0 33 v0 rfl rfl) h0
  obtain ⟨x0, e0, _, _⟩ := DataW.trod_int Try.underlying3 t0
  obtain ⟨x1, e1, _, _⟩ := DataW.trod_int Try.underlying3 t1
  obtain ⟨A2, c2, l2, rfl, g2, r2, m2, n2⟩ := rows_read t2
  obtain ⟨A3, c3, l3, rfl, g3, r3, m3, n3⟩ := rows_read t3
  simp at e0 e1
  subst e0 e1
  clear hA0 hval0 hsz0
  obtain ⟨k, hk⟩ := Pure.FnExactLoopInside x0 x1 l2 l3 m2 n2 m3 n3
  refine (PMk.laws_FnExactLoopInside.calls k x0 x1 A2 c2 l2 A3 c3 l3 true W r2 g2 r3 g3 hk).mono fun e W' ⟨he, bel⟩ => ?_
  subst he
  exact ⟨_, rfl, _, _, _, [], _, [], hW', trodAll_mk1 (shut_bool Try.underlying4 _), (trodAll_cons_mk (Below.trod laidOut (by kernel_rfl) (of_decide_eq_true (by kernel_rfl)) k0 bel lt0) trodAll_mk0), rfl, bel.frame _, fun h => by cases h⟩
set_option maxHeartbeats 4000000 in
theorem closed : joinedFacts Try.prog 5 Try.f5 Rows.fnExactLoopInsideSpec Rows.fnExactLoopInsideRow = true := by
  unfold joinedFacts
  repeat' (with_reducible refine Bool.and_eq_true_iff.2 ⟨?_, ?_⟩)
  all_goals first
    | (with_reducible exact Go.Proofs.Ytncmneliinbjdaa.Fx.enter)
    | (rw [Go.Proofs.Ytncmneliinbjdaa.Fx.final]; kernel_rfl)
    | (rw [Go.Proofs.Ytncmneliinbjdaa.Fx.make]; kernel_rfl)
    | (as_aux_lemma => kernel_rfl)
set_option maxRecDepth 100000 in
theorem over : Rows.fnExactLoopInsideRow.holds Try.pinned (OpenSpec.ofChange Rows.fnExactLoopInsideSpec) :=
  OpenClaim.holds_of_wide 5 Try.f5 rfl rfl rfl rfl rfl rfl rfl ⟨rfl, rfl, rfl, rfl, rfl⟩ rfl rfl rfl rfl rfl (by kernel_rfl) Try.func5 closed
    (of_decide_eq_true (by kernel_rfl)) (by unfold Func.isWrapper; first | (rw [if_pos (by decide +kernel)]; kernel_rfl) | (rw [if_neg (by decide +kernel)]; exact ⟨rfl, rfl⟩))
    (fun os started H enc _ => lifted os started H enc)
theorem proved : Rows.FnExactLoopInsideSaid := over
#print axioms proved
end Go.Proofs.Ytncmneliinbjdaa.fnExactLoopInside
namespace Go.Proofs.Ytncmneliinbjdaa
/-- The row, under a short name, for the claim. -/
theorem fnExactLoopInside_holds : Rows.FnExactLoopInsideSaid := fnExactLoopInside.proved
end Go.Proofs.Ytncmneliinbjdaa
