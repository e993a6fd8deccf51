/- The row of the law FnExactCageRules, over what the plain machine says of it. No conditions. -/
import Derived.Test.YtncmneliinbjdaaFx
import Derived.Test.YtncmneliinbjdaaRows
import Derived.Test.YtncmneliinbjdaaCq
import Derived.Test.YtncmneliinbjdaaAz
import Derived.WalkKit
import Derived.ProofKit
import Derived.OpenShut
import Derived.ShutString
import Derived.ChangeOld
import Derived.Below
import Derived.SizedLaws
namespace Go.Proofs.Ytncmneliinbjdaa.fnExactCageRules
open Go.ChangeShapes Go.WideShapes Go.ChangeAt Go.RowKit
open Go.ChangeMaps (open_string shut_string)
set_option linter.unusedVariables false
theorem own : ownKnob Try.prog.godebug = none := by kernel_rfl
theorem laidOut : laidOutB Try.prog = true := by kernel_rfl
theorem names : Try.prog.funcs.all (fun fn => !(fn.name == "runtime.NumGoroutine")) = true := by kernel_rfl
theorem mixed : Try.prog.follows .mixedOrders = true := by kernel_rfl
def IsRow (k : IntKind) (w : World) (a : Option Addr) (len cap : Nat) (zs : List Int) : Prop :=
  (a = none ∧ len = 0 ∧ cap = 0 ∧ zs = []) ∨
  ∃ x, a = some x ∧ len ≤ cap ∧ zs.length = cap ∧ (∀ i, i < zs.length → w.cell? (x.add i) = some (.int k (zs.getD i 0)))
set_option maxRecDepth 100000 in
theorem lifted (os : Os) (started : os.Started) (H : Type) (enc : TypeId × Value → H) :
    ReturnsInHanded {} Try.checked os 9 .any (Rows.fnExactCageRulesSpec.pre6 enc Try.prog Try.f9 Rows.fnExactCageRulesRow.domain false) (Rows.fnExactCageRulesSpec.post enc Try.prog Try.f9 false true false false) := by
  refine returnsInHanded_of_change_sized (C := Try.checked) own started (by kernel_rfl) Try.func9
    (ChangeSpec.witness6 (enc := enc) (C := Try.checked) false ⟨#[], #[.slice none 0 0, .int .i64 0, .slice none 0 0, .bool false], []⟩ 8 (by kernel_rfl) (by kernel_rfl) (by kernel_rfl) (by kernel_rfl)) ?_
  intro W base args ds gs before hval0 hW hcnd hsz0 _
  have hval : ∀ (j : Nat) t v, Try.f9.params[j]? = some t → args[j]? = some v → Value.okWide Try.prog W .any base t v := hval0
  have hW' := hW
  obtain ⟨p, q, hA0, hV, rfl, hfz, hnd⟩ := hW
  have hA : DataW.TrodAll enc Try.prog W 0 (fun _ => true) true Try.f9.params.toList args.toList ds p := hA0
  rw [Try.params9] at hA hval
  obtain ⟨v0, vs0, d0, ds0, p0, q0, hargs, rfl, rfl, h0, r0⟩ := trodAll_cons hA
  obtain ⟨v1, vs1, d1, ds1, p1, q1, rfl, rfl, rfl, h1, r1⟩ := trodAll_cons r0
  obtain ⟨v2, vs2, d2, ds2, p2, q2, rfl, rfl, rfl, h2, r2⟩ := trodAll_cons r1
  obtain ⟨v3, vs3, d3, ds3, p3, q3, rfl, rfl, rfl, h3, r3⟩ := trodAll_cons r2
  obtain ⟨rfl, rfl, rfl⟩ := trodAll_nil r3
  obtain rfl : args = #[v0, v1, v2, v3] := by cases args; simp_all
  obtain ⟨rfl, rfl⟩ := trodVars_none hV
  obtain ⟨a0, len0, cap0, rfl⟩ := okWide_slice Try.underlying35 (hval 0 35 v0 rfl rfl)
  have k0 := h0
  have lt0 : ∀ x ∈ p0, x.block < W.heap.size := by obtain ⟨m, hm⟩ := k0; exact DataW.trod_lt m _ _ _ hm
  obtain ⟨z0, w0, wf0⟩ : ∃ zs, IsRow .i64 W a0 len0 cap0 zs ∧ ∀ n ∈ zs, (Lit.int .i64 n).wf = true := by
    obtain ⟨fuel, hf⟩ := h0
    rcases open_ints Try.underlying35 Try.underlying3 (by kernel_rfl) hf with ⟨hcs, _⟩ | ⟨x, l, c, zs, hcs, _, hl, hm, hz, _, hcell, hwz⟩
    · simp [Value.cells] at hcs
      obtain ⟨rfl, rfl, rfl⟩ := hcs
      exact ⟨[], .inl ⟨rfl, rfl, rfl, rfl⟩, fun n hn => by cases hn⟩
    · simp [Value.cells] at hcs
      obtain ⟨rfl, rfl, rfl⟩ := hcs
      exact ⟨zs, .inr ⟨_, rfl, hl, by simpa using hz, hcell⟩, hwz⟩
  obtain ⟨a1, rfl, rfl, rfl, w1⟩ := open_int Try.underlying3 (hval 1 3 v1 rfl rfl) h1
  obtain ⟨a2, len2, cap2, rfl⟩ := okWide_slice Try.underlying35 (hval 2 35 v2 rfl rfl)
  have k2 := h2
  have lt2 : ∀ x ∈ p2, x.block < W.heap.size := by obtain ⟨m, hm⟩ := k2; exact DataW.trod_lt m _ _ _ hm
  obtain ⟨z2, w2, wf2⟩ : ∃ zs, IsRow .i64 W a2 len2 cap2 zs ∧ ∀ n ∈ zs, (Lit.int .i64 n).wf = true := by
    obtain ⟨fuel, hf⟩ := h2
    rcases open_ints Try.underlying35 Try.underlying3 (by kernel_rfl) hf with ⟨hcs, _⟩ | ⟨x, l, c, zs, hcs, _, hl, hm, hz, _, hcell, hwz⟩
    · simp [Value.cells] at hcs
      obtain ⟨rfl, rfl, rfl⟩ := hcs
      exact ⟨[], .inl ⟨rfl, rfl, rfl, rfl⟩, fun n hn => by cases hn⟩
    · simp [Value.cells] at hcs
      obtain ⟨rfl, rfl, rfl⟩ := hcs
      exact ⟨zs, .inr ⟨_, rfl, hl, by simpa using hz, hcell⟩, hwz⟩
  obtain ⟨a3, rfl, rfl, rfl⟩ := open_bool Try.underlying4 (hval 3 4 v3 rfl rfl) h3
  clear hA0 hval0 hsz0
  obtain ⟨E0, H0, s0, l0, le0, st0, pf0, g0, rd0, ll0, mem0⟩ := Ab.start_add (Ab.start_nil W) w0
  have b0 : ∀ n ∈ l0, (Lit.int .i64 n).wf = true := fun n hn => wf0 n (mem0 n hn)
  obtain ⟨E2, H2, s2, l2, le2, st2, pf2, g2, rd2, ll2, mem2⟩ := Ab.start_add st0 w2
  have g0 := g0.mono le2
  have rd0 := Rp.pf_reads pf2 rd0
  have b2 : ∀ n ∈ l2, (Lit.int .i64 n).wf = true := fun n hn => wf2 n (mem2 n hn)
  have hcall : Calls Try.prog 9 #[.slice a0 len0 cap0, .int .i64 a1, .slice a2 len2 cap2, .bool a3] W fun e W' => e = .returned (.bool true) ∧ Below W.heap.size W W' := Ab.start_law (O := Ab.orc) names mixed st2 (avs := [.sl 1 s0, .int .i64 a1, .sl 1 s2, .bool a3]) (rvs := [.slice a0 len0 cap0, .int .i64 a1, .slice a2 len2 cap2, .bool a3]) (.cons g0 (.cons (.int _ _) (.cons g2 (.cons (.bool _) .nil)))) (⟨2000010, Rp.exactCage_ok (Nat.le_refl _) a1 a3 rd0 rd2⟩)
  refine hcall.mono fun e W' ⟨he, bel⟩ => ?_
  subst he
  exact ⟨_, rfl, _, _, _, [], _, [], hW', trodAll_mk1 (shut_bool Try.underlying4 _), (trodAll_cons_mk (Below.trod laidOut (by kernel_rfl) (of_decide_eq_true (by kernel_rfl)) k0 bel lt0) (trodAll_cons_mk (shut_int Try.underlying3 w1) (trodAll_cons_mk (Below.trod laidOut (by kernel_rfl) (of_decide_eq_true (by kernel_rfl)) k2 bel lt2) (trodAll_cons_mk (shut_bool Try.underlying4 _) trodAll_mk0)))), rfl, bel.frame _, fun h => by cases h⟩
set_option maxHeartbeats 4000000 in
theorem closed : joinedFacts Try.prog 9 Try.f9 Rows.fnExactCageRulesSpec Rows.fnExactCageRulesRow = true := by
  unfold joinedFacts
  repeat' (with_reducible refine Bool.and_eq_true_iff.2 ⟨?_, ?_⟩)
  all_goals first
    | (with_reducible exact Go.Proofs.Ytncmneliinbjdaa.Fx.enter)
    | (rw [Go.Proofs.Ytncmneliinbjdaa.Fx.final]; kernel_rfl)
    | (rw [Go.Proofs.Ytncmneliinbjdaa.Fx.make]; kernel_rfl)
    | (as_aux_lemma => kernel_rfl)
theorem over : Rows.fnExactCageRulesRow.holds Try.pinned (OpenSpec.ofChange Rows.fnExactCageRulesSpec) :=
  OpenClaim.holds_of_wide 9 Try.f9 rfl rfl rfl rfl rfl rfl rfl ⟨rfl, rfl, rfl, rfl, rfl⟩ rfl rfl rfl rfl rfl (by kernel_rfl) Try.func9 closed
    (of_decide_eq_true (by kernel_rfl)) (by unfold Func.isWrapper; first | (rw [if_pos (by decide +kernel)]; kernel_rfl) | (rw [if_neg (by decide +kernel)]; exact ⟨rfl, rfl⟩))
    (fun os started H enc _ => lifted os started H enc)
theorem proved : Rows.FnExactCageRulesSaid := over
#print axioms proved
end Go.Proofs.Ytncmneliinbjdaa.fnExactCageRules
namespace Go.Proofs.Ytncmneliinbjdaa
/-- The row, under a short name, for the claim. -/
theorem fnExactCageRules_holds : Rows.FnExactCageRulesSaid := fnExactCageRules.proved
end Go.Proofs.Ytncmneliinbjdaa
