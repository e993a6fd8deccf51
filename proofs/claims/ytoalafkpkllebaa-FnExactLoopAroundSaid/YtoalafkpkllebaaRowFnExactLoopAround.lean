/- The row of the law FnExactLoopAround, over what the plain machine says of it. No conditions. -/
import Derived.Test.YtoalafkpkllebaaFx
import Derived.Test.YtoalafkpkllebaaRows
import Derived.Test.YtoalafkpkllebaaBuFnExactLoopAround2
import Derived.Test.YtoalafkpkllebaaAz
import Derived.WalkKit
import Derived.ProofKit
import Derived.OpenShut
import Derived.ShutString
import Derived.ChangeOld
import Derived.Below
import Derived.SizedLaws
import Derived.Test.YtoalafkpkllebaaAa
import Derived.Deep.Grids
namespace Go.Proofs.Ytoalafkpkllebaa.fnExactLoopAround
open Go.ChangeShapes Go.WideShapes Go.ChangeAt Go.RowKit
open Go.ChangeMaps (open_string shut_string)
set_option linter.unusedVariables false
theorem own : ownKnob Try.prog.godebug = none := by kernel_rfl
theorem laidOut : laidOutB Try.prog = true := by kernel_rfl
theorem names : Try.prog.funcs.all (fun fn => !(fn.name == "runtime.NumGoroutine")) = true := by kernel_rfl
theorem mixed : Try.prog.follows .mixedOrders = true := by kernel_rfl
def IsRow (k : IntKind) (w : World) (a : Option Addr) (len cap : Nat) (zs : List Int) : Prop :=
  (a = none ∧ len = 0 ∧ cap = 0 ∧ zs = []) ∨
  ∃ x, a = some x ∧ len ≤ cap ∧ zs.length = cap ∧ (∀ i, i < zs.length → w.cell? (x.add i) = some (.int k (zs.getD i 0)))
set_option maxRecDepth 100000 in
theorem lifted (os : Os) (started : os.Started) (H : Type) (enc : TypeId × Value → H) :
    ReturnsInHanded {} Try.checked os 3 .any (Rows.fnExactLoopAroundSpec.pre6 enc Try.prog Try.f3 Rows.fnExactLoopAroundRow.domain false) (Rows.fnExactLoopAroundSpec.post enc Try.prog Try.f3 false true false false) := by
  refine returnsInHanded_of_change_sized (C := Try.checked) own started (by kernel_rfl) Try.func3
    (ChangeSpec.witness6 (enc := enc) (C := Try.checked) false ⟨#[], #[.int .i64 0, .int .i64 0, .slice none 0 0], []⟩ 8 (by kernel_rfl) (by kernel_rfl) (by kernel_rfl) (by kernel_rfl)) ?_
  intro W base args ds gs before hval0 hW hcnd hsz0 _
  have hval : ∀ (j : Nat) t v, Try.f3.params[j]? = some t → args[j]? = some v → Value.okWide Try.prog W .any base t v := hval0
  have hW' := hW
  obtain ⟨p, q, hA0, hV, rfl, hfz, hnd⟩ := hW
  have hA : DataW.TrodAll enc Try.prog W 0 (fun _ => true) true Try.f3.params.toList args.toList ds p := hA0
  rw [Try.params3] at hA hval
  obtain ⟨v0, vs0, d0, ds0, p0, q0, hargs, rfl, rfl, h0, r0⟩ := trodAll_cons hA
  obtain ⟨v1, vs1, d1, ds1, p1, q1, rfl, rfl, rfl, h1, r1⟩ := trodAll_cons r0
  obtain ⟨v2, vs2, d2, ds2, p2, q2, rfl, rfl, rfl, h2, r2⟩ := trodAll_cons r1
  obtain ⟨rfl, rfl, rfl⟩ := trodAll_nil r2
  obtain rfl : args = #[v0, v1, v2] := by cases args; simp_all
  obtain ⟨rfl, rfl⟩ := trodVars_none hV
  obtain ⟨a0, rfl, rfl, rfl, w0⟩ := open_int Try.underlying3 (hval 0 3 v0 rfl rfl) h0
  obtain ⟨a1, rfl, rfl, rfl, w1⟩ := open_int Try.underlying3 (hval 1 3 v1 rfl rfl) h1
  obtain ⟨a2, len2, cap2, rfl⟩ := okWide_slice Try.underlying22 (hval 2 22 v2 rfl rfl)
  have k2 := h2
  have lt2 : ∀ x ∈ p2, x.block < W.heap.size := by obtain ⟨m, hm⟩ := k2; exact DataW.trod_lt m _ _ _ hm
  have w2 : (a2 = none ∧ len2 = 0 ∧ cap2 = 0) ∨ ∃ (x : Addr) (B : Nat → Bool), a2 = some x ∧ len2 ≤ cap2 ∧ (∀ i, i < cap2 → W.cell? (x.add i) = some (.bool (B i))) := by
    obtain ⟨fuel, hf⟩ := h2
    rcases Go.Deep.open_bools Try.underlying22 Try.underlying4 (by kernel_rfl) hf with ⟨hcs, _⟩ | ⟨x, l, c, B, hcs, _, hl, hm, _, hcell⟩
    · simp [Value.cells] at hcs
      obtain ⟨rfl, rfl, rfl⟩ := hcs
      exact .inl ⟨rfl, rfl, rfl⟩
    · simp [Value.cells] at hcs
      obtain ⟨rfl, rfl, rfl⟩ := hcs
      exact .inr ⟨x, B, rfl, hl, hcell⟩
  clear hA0 hval0 hsz0
  obtain ⟨E2, H2, s2, l2, le2, st2, pf2, g2, rd2, ll2⟩ := Ab.start_addB (Ab.start_nil W) w2
  have hcall : Calls Try.prog 3 #[.int .i64 a0, .int .i64 a1, .slice a2 len2 cap2] W fun e W' => e = .returned (.bool true) ∧ Below W.heap.size W W' := Ab.start_law (O := Ab.orc) names mixed st2 (avs := [.int .i64 a0, .int .i64 a1, .sl 1 s2]) (rvs := [.int .i64 a0, .int .i64 a1, .slice a2 len2 cap2]) (.cons (.int _ _) (.cons (.int _ _) (.cons g2 .nil))) (⟨2000010, Rp.exactAround_ok (Nat.le_refl _) a0 a1 rd2⟩)
  refine hcall.mono fun e W' ⟨he, bel⟩ => ?_
  subst he
  exact ⟨_, rfl, _, _, _, [], _, [], hW', trodAll_mk1 (shut_bool Try.underlying4 _), (trodAll_cons_mk (shut_int Try.underlying3 w0) (trodAll_cons_mk (shut_int Try.underlying3 w1) (trodAll_cons_mk (Below.trod laidOut (by kernel_rfl) (of_decide_eq_true (by kernel_rfl)) k2 bel lt2) trodAll_mk0))), rfl, bel.frame _, fun h => by cases h⟩
set_option maxHeartbeats 4000000 in
theorem closed : joinedFacts Try.prog 3 Try.f3 Rows.fnExactLoopAroundSpec Rows.fnExactLoopAroundRow = true := by
  unfold joinedFacts
  repeat' (with_reducible refine Bool.and_eq_true_iff.2 ⟨?_, ?_⟩)
  all_goals first
    | (with_reducible exact Go.Proofs.Ytoalafkpkllebaa.Fx.enter)
    | (rw [Go.Proofs.Ytoalafkpkllebaa.Fx.final]; kernel_rfl)
    | (rw [Go.Proofs.Ytoalafkpkllebaa.Fx.make]; kernel_rfl)
    | (as_aux_lemma => kernel_rfl)
theorem over : Rows.fnExactLoopAroundRow.holds Try.pinned (OpenSpec.ofChange Rows.fnExactLoopAroundSpec) :=
  OpenClaim.holds_of_wide 3 Try.f3 rfl rfl rfl rfl rfl rfl rfl ⟨rfl, rfl, rfl, rfl, rfl⟩ rfl rfl rfl rfl rfl (by kernel_rfl) Try.func3 closed
    (of_decide_eq_true (by kernel_rfl)) (by unfold Func.isWrapper; first | (rw [if_pos (by decide +kernel)]; kernel_rfl) | (rw [if_neg (by decide +kernel)]; exact ⟨rfl, rfl⟩))
    (fun os started H enc _ => lifted os started H enc)
theorem proved : Rows.FnExactLoopAroundSaid := over
#print axioms proved
end Go.Proofs.Ytoalafkpkllebaa.fnExactLoopAround
namespace Go.Proofs.Ytoalafkpkllebaa
/-- The row, under a short name, for the claim. -/
theorem fnExactLoopAround_holds : Rows.FnExactLoopAroundSaid := fnExactLoopAround.proved
end Go.Proofs.Ytoalafkpkllebaa
