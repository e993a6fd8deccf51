/- Texts for the row of the law FnRulesLess, part 11: the plain machine, the program's functions on it, what they come to. No conditions. -/
import Derived.Test.YtjikkamhljbipaaAb
import Derived.Test.YtjikkamhljbipaaOr
import Derived.Test.YtjikkamhljbipaaBuFnRulesLess10
import Derived.Test.YtjikkamhljbipaaBuFnRulesLess8
import Derived.Test.YtjikkamhljbipaaBuFnRulesLess4
/- Functions of the program as plain Lean functions. No conditions. -/
set_option linter.unusedVariables false
set_option linter.unusedSimpArgs false
set_option maxRecDepth 100000
namespace Go.Proofs.Ytjikkamhljbipaa.Rp
open Go Go.Proofs.Ytjikkamhljbipaa.Ab
noncomputable def impl_firstSolutions.body : Code := (Go.Proofs.Try.f63).body.getD .skip
noncomputable def impl_firstSolutions.f (rec : Rec) (k : Nat) (a0_0 : Int) (a0_1 : Sl) (a0_2 : Sl) (a1 : Sl) (a2 : Int) (H : Hp) : An := ((H ++ [some (Blk.mk false [.int .i64 a2])] ++ [some (Blk.mk false [])] ++ [some (Blk.mk false [.sl 1 Sl.none])]).sto ((H ++ [some (Blk.mk false [.int .i64 a2])] ++ [some (Blk.mk false [])]).length) 0 [.sl 1 (Sl.mk false ((H ++ [some (Blk.mk false [.int .i64 a2])]).length) 0 0)]).bind fun H1 => (rec impl_solutions.id [.agg [.int .i64 a0_0, .sl 1 a0_1, .sl 3 a0_2], .sl 1 a1, .fn impl_firstSolutions_1.id [.ptr ((H ++ [some (Blk.mk false [.int .i64 a2])] ++ [some (Blk.mk false [])]).length) 0, .ptr H.length 0]] H1).bind fun r2 => (ldS 1 r2.2 ((H ++ [some (Blk.mk false [.int .i64 a2])] ++ [some (Blk.mk false [])]).length) 0).bind fun s3 => some (.sl 1 s3, r2.2)
theorem impl_firstSolutions.f_eq (rec : Rec) (k : Nat) : ∀ a0_0 a0_1 a0_2 a1 a2 H, impl_firstSolutions.f rec k a0_0 a0_1 a0_2 a1 a2 H = ex PP (orc impl_firstSolutions.id) rec k impl_firstSolutions.body (St.of 14 [(0, .agg [.int .i64 a0_0, .sl 1 a0_1, .sl 3 a0_2]), (1, .sl 1 a1), (2, .int .i64 a2)] []) H (K0 PP Go.Proofs.Try.f63) := by
  intros a0_0 a0_1 a0_2 a1 a2 H
  unfold impl_firstSolutions.f
  kernel_rfl
theorem impl_firstSolutions.call (k : Nat) : ∀ a0_0 a0_1 a0_2 a1 a2 H, callF PP orc (k + 1) impl_firstSolutions.id [.agg [.int .i64 a0_0, .sl 1 a0_1, .sl 3 a0_2], .sl 1 a1, .int .i64 a2] H = impl_firstSolutions.f (callF PP orc k) k a0_0 a0_1 a0_2 a1 a2 H := by
  intros a0_0 a0_1 a0_2 a1 a2 H
  rw [callF_at (fn := Go.Proofs.Try.f63) (c := impl_firstSolutions.body) Go.Proofs.Try.func63 (by kernel_rfl) (Nat.le_of_ble_eq_true (by kernel_rfl)), impl_firstSolutions.f_eq]
  kernel_rfl
noncomputable def impl_firstSolutions_1.body : Code := (Go.Proofs.Try.f93).body.getD .skip
noncomputable def impl_firstSolutions_1.f (rec : Rec) (k : Nat) (a0 : Sl) (c0b : Nat) (c0o : Nat) (c1b : Nat) (c1o : Nat) (H : Hp) : An := (ldS 1 H c0b c0o).bind fun s1 => (rec slices_Clone_int.id [.sl 1 a0] H).bind fun r2 => (r2.1.toS 1).bind fun s3 => bif stableB H r2.2 c0b c0o 1 && true then (r2.2.app 1 s1 1 [.sl 1 s3]).bind fun w4 => (w4.2.sto c0b c0o [.sl 1 w4.1]).bind fun H5 => (ldS 1 H5 c0b c0o).bind fun s6 => (ldI .i64 H5 c1b c1o).bind fun n7 => some (.bool (decide ((s6.len : Int) < n7)), H5) else none
theorem impl_firstSolutions_1.f_eq (rec : Rec) (k : Nat) : ∀ a0 c0b c0o c1b c1o H, impl_firstSolutions_1.f rec k a0 c0b c0o c1b c1o H = ex PP (orc impl_firstSolutions_1.id) rec k impl_firstSolutions_1.body (St.of 14 [(0, .sl 1 a0), (1, .ptr c0b c0o), (2, .ptr c1b c1o)] []) H (K0 PP Go.Proofs.Try.f93) := by
  intros a0 c0b c0o c1b c1o H
  unfold impl_firstSolutions_1.f
  kernel_rfl
theorem impl_firstSolutions_1.call (k : Nat) : ∀ a0 c0b c0o c1b c1o H, callF PP orc (k + 1) impl_firstSolutions_1.id [.sl 1 a0, .ptr c0b c0o, .ptr c1b c1o] H = impl_firstSolutions_1.f (callF PP orc k) k a0 c0b c0o c1b c1o H := by
  intros a0 c0b c0o c1b c1o H
  rw [callF_at (fn := Go.Proofs.Try.f93) (c := impl_firstSolutions_1.body) Go.Proofs.Try.func93 (by kernel_rfl) (Nat.le_of_ble_eq_true (by kernel_rfl)), impl_firstSolutions_1.f_eq]
  kernel_rfl
noncomputable def impl_CountSolutions.body : Code := (Go.Proofs.Try.f26).body.getD .skip
noncomputable def impl_CountSolutions.j1 (rec : Rec) (k : Nat) (x1 : Int) (y2_0 : Int) (y2_1 : Sl) (y2_2 : Sl) (H : Hp) : An := (rec impl_firstSolutions.id [.agg [.int .i64 y2_0, .sl 1 y2_1, .sl 3 y2_2], .sl 1 y2_1, .int .i64 x1] H).bind fun r3 => (r3.1.toS 1).bind fun s4 => some (.int .i64 (s4.len : Int), r3.2)
noncomputable def impl_CountSolutions.j0 (rec : Rec) (k : Nat) (x1 : Int) (x15 : Bool) (y2_0 : Int) (y2_1 : Sl) (y2_2 : Sl) (H : Hp) : An := bif x15 then some (.int .i64 (-1), H) else impl_CountSolutions.j1 rec k x1 y2_0 y2_1 y2_2 H
noncomputable def impl_CountSolutions.f (rec : Rec) (k : Nat) (a0_0 : Int) (a0_1 : Sl) (a0_2 : Sl) (a1 : Int) (H : Hp) : An := (rec impl_PuzzleValid.id [.agg [.int .i64 a0_0, .sl 1 a0_1, .sl 3 a0_2]] H).bind fun r1 => r1.1.toB.bind fun b2 => bif !b2 then impl_CountSolutions.j0 rec k a1 true a0_0 a0_1 a0_2 r1.2 else bif decide (a1 < 1) then impl_CountSolutions.j0 rec k a1 true a0_0 a0_1 a0_2 r1.2 else impl_CountSolutions.j0 rec k a1 (decide (a1 > 600)) a0_0 a0_1 a0_2 r1.2
theorem impl_CountSolutions.j1_eq (rec : Rec) (k : Nat) : ∀ x1 y2_0 y2_1 y2_2 H, impl_CountSolutions.j1 rec k x1 y2_0 y2_1 y2_2 H = ex PP (orc impl_CountSolutions.id) rec k (sub impl_CountSolutions.body [1, 1]) (St.of 22 [(1, .int .i64 x1), (2, .lp 2 0)] [(2, [.int .i64 y2_0, .sl 1 y2_1, .sl 3 y2_2])]) H (kAt PP (orc impl_CountSolutions.id) rec k impl_CountSolutions.body [1, 1] [] (K0 PP Go.Proofs.Try.f26)) := by
  intros x1 y2_0 y2_1 y2_2 H
  unfold impl_CountSolutions.j1
  kernel_rfl
theorem impl_CountSolutions.j0_eq (rec : Rec) (k : Nat) : ∀ x1 x15 y2_0 y2_1 y2_2 H, impl_CountSolutions.j0 rec k x1 x15 y2_0 y2_1 y2_2 H = ex PP (orc impl_CountSolutions.id) rec k (sub impl_CountSolutions.body [1, 0, 1]) (St.of 22 [(1, .int .i64 x1), (2, .lp 2 0), (15, .bool x15)] [(2, [.int .i64 y2_0, .sl 1 y2_1, .sl 3 y2_2])]) H (kAt PP (orc impl_CountSolutions.id) rec k impl_CountSolutions.body [1, 0, 1] [] (K0 PP Go.Proofs.Try.f26)) := by
  intros x1 x15 y2_0 y2_1 y2_2 H
  unfold impl_CountSolutions.j0
  try simp only [impl_CountSolutions.j1_eq rec k, -eq_self]
  kernel_rfl
theorem impl_CountSolutions.f_eq (rec : Rec) (k : Nat) : ∀ a0_0 a0_1 a0_2 a1 H, impl_CountSolutions.f rec k a0_0 a0_1 a0_2 a1 H = ex PP (orc impl_CountSolutions.id) rec k impl_CountSolutions.body (St.of 22 [(0, .agg [.int .i64 a0_0, .sl 1 a0_1, .sl 3 a0_2]), (1, .int .i64 a1)] []) H (K0 PP Go.Proofs.Try.f26) := by
  intros a0_0 a0_1 a0_2 a1 H
  unfold impl_CountSolutions.f
  try simp only [impl_CountSolutions.j0_eq rec k, -eq_self]
  kernel_rfl
theorem impl_CountSolutions.call (k : Nat) : ∀ a0_0 a0_1 a0_2 a1 H, callF PP orc (k + 1) impl_CountSolutions.id [.agg [.int .i64 a0_0, .sl 1 a0_1, .sl 3 a0_2], .int .i64 a1] H = impl_CountSolutions.f (callF PP orc k) k a0_0 a0_1 a0_2 a1 H := by
  intros a0_0 a0_1 a0_2 a1 H
  rw [callF_at (fn := Go.Proofs.Try.f26) (c := impl_CountSolutions.body) Go.Proofs.Try.func26 (by kernel_rfl) (Nat.le_of_ble_eq_true (by kernel_rfl)), impl_CountSolutions.f_eq]
  kernel_rfl
noncomputable def impl_SolveFirst.body : Code := (Go.Proofs.Try.f23).body.getD .skip
noncomputable def impl_SolveFirst.f (rec : Rec) (k : Nat) (a0_0 : Int) (a0_1 : Sl) (a0_2 : Sl) (H : Hp) : An := (rec impl_PuzzleValid.id [.agg [.int .i64 a0_0, .sl 1 a0_1, .sl 3 a0_2]] H).bind fun r1 => r1.1.toB.bind fun b2 => bif !b2 then some (.tup [.sl 1 Sl.none, .bool false], r1.2) else (rec impl_firstSolutions.id [.agg [.int .i64 a0_0, .sl 1 a0_1, .sl 3 a0_2], .sl 1 a0_1, .int .i64 1] r1.2).bind fun r3 => (r3.1.toS 1).bind fun s4 => bif (s4.len : Int) == 0 then some (.tup [.sl 1 Sl.none, .bool false], r3.2) else bif decide (0 ≤ (0 : Int)) && decide ((0 : Int) < s4.len) then (ldS 1 r3.2 s4.blk (s4.off + (0 : Int).toNat * 1)).bind fun s5 => some (.tup [.sl 1 s5, .bool true], r3.2) else none
theorem impl_SolveFirst.f_eq (rec : Rec) (k : Nat) : ∀ a0_0 a0_1 a0_2 H, impl_SolveFirst.f rec k a0_0 a0_1 a0_2 H = ex PP (orc impl_SolveFirst.id) rec k impl_SolveFirst.body (St.of 18 [(0, .agg [.int .i64 a0_0, .sl 1 a0_1, .sl 3 a0_2])] []) H (K0 PP Go.Proofs.Try.f23) := by
  intros a0_0 a0_1 a0_2 H
  unfold impl_SolveFirst.f
  kernel_rfl
theorem impl_SolveFirst.call (k : Nat) : ∀ a0_0 a0_1 a0_2 H, callF PP orc (k + 1) impl_SolveFirst.id [.agg [.int .i64 a0_0, .sl 1 a0_1, .sl 3 a0_2]] H = impl_SolveFirst.f (callF PP orc k) k a0_0 a0_1 a0_2 H := by
  intros a0_0 a0_1 a0_2 H
  rw [callF_at (fn := Go.Proofs.Try.f23) (c := impl_SolveFirst.body) Go.Proofs.Try.func23 (by kernel_rfl) (Nat.le_of_ble_eq_true (by kernel_rfl)), impl_SolveFirst.f_eq]
  kernel_rfl
noncomputable def impl_onlyOne.body : Code := (Go.Proofs.Try.f68).body.getD .skip
noncomputable def impl_onlyOne.f (rec : Rec) (k : Nat) (a0_0 : Int) (a0_1 : Sl) (a0_2 : Sl) (H : Hp) : An := (rec impl_CountSolutions.id [.agg [.int .i64 a0_0, .sl 1 a0_1, .sl 3 a0_2], .int .i64 2] H).bind fun r1 => (r1.1.toI .i64).bind fun n2 => some (.bool (n2 == 1), r1.2)
theorem impl_onlyOne.f_eq (rec : Rec) (k : Nat) : ∀ a0_0 a0_1 a0_2 H, impl_onlyOne.f rec k a0_0 a0_1 a0_2 H = ex PP (orc impl_onlyOne.id) rec k impl_onlyOne.body (St.of 6 [(0, .agg [.int .i64 a0_0, .sl 1 a0_1, .sl 3 a0_2])] []) H (K0 PP Go.Proofs.Try.f68) := by
  intros a0_0 a0_1 a0_2 H
  unfold impl_onlyOne.f
  kernel_rfl
theorem impl_onlyOne.call (k : Nat) : ∀ a0_0 a0_1 a0_2 H, callF PP orc (k + 1) impl_onlyOne.id [.agg [.int .i64 a0_0, .sl 1 a0_1, .sl 3 a0_2]] H = impl_onlyOne.f (callF PP orc k) k a0_0 a0_1 a0_2 H := by
  intros a0_0 a0_1 a0_2 H
  rw [callF_at (fn := Go.Proofs.Try.f68) (c := impl_onlyOne.body) Go.Proofs.Try.func68 (by kernel_rfl) (Nat.le_of_ble_eq_true (by kernel_rfl)), impl_onlyOne.f_eq]
  kernel_rfl
end Go.Proofs.Ytjikkamhljbipaa.Rp
/- The search told to a list. No conditions. -/
set_option linter.unusedVariables false
set_option linter.unusedSimpArgs false
namespace Go.Proofs.Ytjikkamhljbipaa.Rp
open Go Go.RowKit Go.Proofs.Ytjikkamhljbipaa.Ab

/-- What was collected, apart from the grid's block d. -/
structure OutD (B : Hp) (b d : Nat) (H : Hp) (s : Sl) (ls : List (List Int)) : Prop where
  cell : H[b]? = some (some ⟨false, [.sl 1 s]⟩)
  bB : B.length ≤ b
  bs : s.blk ≠ b
  bd : b ≠ d
  sd : s.blk ≠ d
  ex : ∃ ss : List Sl, Own 1 B H s (ss.map (.sl 1)) ∧ ss.length = ls.length ∧ ∀ i, (h : i < ss.length) → (h' : i < ls.length) → Own 1 B H ss[i] (ls[i].map (.int .i64)) ∧ ss[i].blk ≠ b ∧ ss[i].blk ≠ s.blk ∧ ss[i].blk < H.length ∧ B.length ≤ ss[i].blk ∧ ss[i].blk ≠ d
theorem OutD.reads {B H : Hp} {b d : Nat} {s : Sl} {ls : List (List Int)} (h : OutD B b d H s ls) : ReadsL B H s ls := by
  obtain ⟨ss, h1, h2, h3⟩ := h.ex
  have : Outs B b H s ls := ⟨h.cell, h.bB, h.bs, ss, h1, h2, fun i hi hi' => by
    obtain ⟨a, b, c, d, e, f⟩ := h3 i hi hi'
    exact ⟨a, b, c, d, e⟩⟩
  exact this.reads
theorem OutD.len {B H : Hp} {b d : Nat} {s : Sl} {ls : List (List Int)} (h : OutD B b d H s ls) : s.len = ls.length := h.reads.len
theorem OutD.pf {B H H' : Hp} {b d : Nat} {s : Sl} {ls : List (List Int)} (h : OutD B b d H s ls) (g : H <+: H') : OutD B b d H' s ls := by
  obtain ⟨ss, h1, h2, h3⟩ := h.ex
  exact ⟨pf_get g h.cell, h.bB, h.bs, h.bd, h.sd, ss, own_pf h1 g, h2, fun i hi hi' => by
    obtain ⟨a, b, c, d, e, f⟩ := h3 i hi hi'
    exact ⟨own_pf a g, b, c, Nat.lt_of_lt_of_le d g.length_le, e, f⟩⟩
theorem OutD.wr {B H H' : Hp} {b d : Nat} {s : Sl} {ls : List (List Int)} (h : OutD B b d H s ls) (g : But d H H') (hl : H'.length = H.length) : OutD B b d H' s ls := by
  obtain ⟨ss, h1, h2, h3⟩ := h.ex
  exact ⟨g _ _ h.bd h.cell, h.bB, h.bs, h.bd, h.sd, ss, g.own h.sd h1, h2, fun i hi hi' => by
    obtain ⟨a, b, c, d, e, f⟩ := h3 i hi hi'
    exact ⟨g.own f a, b, c, by omega, e, f⟩⟩
theorem outD_app {B H : Hp} {b d : Nat} {s : Sl} {ls : List (List Int)} (h : OutD B b d H s ls) (hB : B <+: H) (hl : ls.length ≤ 100000) {t : Sl} {g : List Int} (ht : Own 1 B H t (g.map (.int .i64))) (t1 : t.blk ≠ b) (t2 : t.blk ≠ s.blk) (t3 : t.blk < H.length) (t4 : B.length ≤ t.blk) (t5 : t.blk ≠ d) (hd : d < H.length) :
    ∃ H1 H2, H.app 1 s 1 [.sl 1 t] = some (Sl.mk false H.length 0 (ls.length + 1), H1) ∧ H1.sto b 0 [.sl 1 (Sl.mk false H.length 0 (ls.length + 1))] = some H2 ∧ OutD B b d H2 (Sl.mk false H.length 0 (ls.length + 1)) (ls ++ [g]) ∧ Adv2 b s.blk H H2 ∧ B <+: H2 := by
  obtain ⟨ss, h1, h2, h3⟩ := h.ex
  have hsl := h.len
  obtain ⟨H1, a1, a2, a3, a4, a5⟩ := own_app h1 hB 1 [.sl 1 t] (by omega) (by omega) (by omega) (by omega) rfl
  rw [hsl] at a1 a3
  have hb1 := a4 b _ (Ne.symm h.bs) h.cell
  obtain ⟨H2, c1, c2, c3, c4⟩ := sto1' hb1 (.sl 1 (Sl.mk false H.length 0 (ls.length + 1)))
  have hbl := (List.getElem?_eq_some_iff.1 h.cell).1
  have adv : Adv2 b s.blk H H2 := ⟨fun d x d1 d2 hx => c3 d x d1 (a4 d x d2 hx), by omega⟩
  refine ⟨H1, H2, a1, c1, ⟨c2, h.bB, by simp only; omega, h.bd, by simp only; omega, ss ++ [t], ?_, by simp [h2], fun i hi hi' => ?_⟩, adv, adv.pf h.bB h1.blk hB⟩
  · have := c3.own (by simp only; omega) a3
    simpa using this
  · by_cases e : i < ss.length
    · obtain ⟨q1, q2, q3, q4, q5, q6⟩ := h3 i e (by omega)
      rw [List.getElem_append_left e, List.getElem_append_left (by omega)]
      exact ⟨adv.own q2 q3 q1, q2, by simp only; omega, by omega, q5, q6⟩
    · have ei : i = ss.length := by simp at hi; omega
      subst ei
      have e1 : (ss ++ [t])[ss.length] = t := by simp
      have e2 : (ls ++ [g])[ss.length] = g := by simp [h2]
      rw [e1, e2]
      exact ⟨adv.own t1 t2 ht, t1, by simp only; omega, by omega, t4, t5⟩

/-- What stands while solutions are collected. -/
structure TF (B : Hp) (b mb : Nat) (most : Int) (d c : Nat) (st : List (List Int) × Bool) (H : Hp) : Prop where
  ex : ∃ s : Sl, s.blk = c ∧ OutD B b d H s st.1
  m : H[mb]? = some (some ⟨false, [.int .i64 most]⟩)
  m1 : mb ≠ b
  m2 : mb ≠ c
  m3 : mb ≠ d
  hd : d < H.length
  lt : st.2 = true → (st.1.length : Int) < most
def stepF (most : Int) (ls : List (List Int)) (x : List Int) : List (List Int) × Bool := (ls ++ [x], decide (((ls.length + 1 : Nat) : Int) < most))
theorem tell_first {B : Hp} {b d mb : Nat} {most : Int} (hbd : b ≠ d) (hbB : B.length ≤ b) (hm : most ≤ 1000) : Tell B impl_firstSolutions_1.id [.ptr b 0, .ptr mb 0] b d (stepF most) (TF B b mb most d) 10 := by
  refine ⟨by kernel_rfl, rfl, hbB, hbd, ?_, ?_, ?_⟩
  · rintro c st H H' ⟨⟨s, hc, ho⟩, m, m1, m2, m3, hd, hlt⟩ g
    exact ⟨⟨s, hc, ho.pf g⟩, pf_get g m, m1, m2, m3, Nat.lt_of_lt_of_le hd g.length_le, hlt⟩
  · rintro c st H H' ⟨⟨s, hc, ho⟩, m, m1, m2, m3, hd, hlt⟩ g hl
    exact ⟨⟨s, hc, ho.wr g hl⟩, g _ _ m3 m, m1, m2, m3, by omega, hlt⟩
  · rintro k hk c st H t g ⟨⟨s, hc, ho⟩, m, m1, m2, m3, hd, hlt⟩ hB hr h16 htd htn hcd hcB
    subst hc
    have hlt' := hlt rfl
    simp only at hlt' ho
    obtain ⟨k, rfl⟩ : ∃ q, k = q + 1 := ⟨k - 1, by omega⟩
    have hcell : ldS 1 H b 0 = some s := by unfold ldS Hp.cell; rw [ho.cell]; simp [AV.toS]
    have hbl := (List.getElem?_eq_some_iff.1 ho.cell).1
    have hml := (List.getElem?_eq_some_iff.1 m).1
    have g1 : H <+: H ++ [some (Blk.mk false (g.map (.int .i64)))] := List.prefix_append _ _
    have hnew := own_new 1 H (g.map (.int .i64)) g.length (by simp)
    have hst : stableB H (H ++ [some (Blk.mk false (g.map (.int .i64)))]) b 0 1 = true := by
      have e1 : H.cell b 0 = some (.sl 1 s) := by unfold Hp.cell; rw [ho.cell]; rfl
      have e2 := pf_cell g1 e1
      unfold stableB
      simp [e1, e2, AV.same]
    have hob : s.blk < H.length := by obtain ⟨ss, h1, _⟩ := ho.ex; exact own_lt' h1
    have hcl := Clone_own (show 1 ≤ k by omega) hr htn (by omega)
    obtain ⟨H1, H2, a1, a2, a3, a4, a5⟩ := outD_app (ho.pf g1) (hB.trans g1) (by omega) (own_base hnew hB) (by first | omega | (simp only; omega) | (simp; omega)) (by first | omega | (simp only; omega) | (simp; omega)) (by simp) hB.length_le (by first | omega | (simp only; omega) | (simp; omega)) (by simp; omega)
    have adv : Adv2 b s.blk H H2 := (pf_adv2 g1).trans a4 (.inl rfl)
    have hm2 := adv.but _ _ m1 m2 m
    have hl2 : ldS 1 H2 b 0 = some (Sl.mk false (H ++ [some (Blk.mk false (g.map (.int .i64)))]).length 0 (st.length + 1)) := by unfold ldS Hp.cell; rw [a3.cell]; simp [AV.toS]
    have hm3 : ldI .i64 H2 mb 0 = some most := by unfold ldI Hp.cell; rw [hm2]; simp [AV.toI]
    refine ⟨H2, (H ++ [some (Blk.mk false (g.map (.int .i64)))]).length, ?_, ⟨⟨_, rfl, a3⟩, hm2, m1, (by first | omega | (simp only; omega) | (simp; omega)), m3, by have := adv.le; omega, ?_⟩, adv, .inr (by simp)⟩
    · show callF PP orc (k + 1) impl_firstSolutions_1.id [.sl 1 t, .ptr b 0, .ptr mb 0] H = some (.bool (decide (((st.length + 1 : Nat) : Int) < most)), H2)
      rw [impl_firstSolutions_1.call]
      simp (disch := omega) only [impl_firstSolutions_1.f, dt, df, bt, bf, nt, nf, Bool.and_self, Bool.not_true, Bool.not_false, cond_true, cond_false, Int.toNat_natCast, Int.toNat_zero, Int.toNat_one, Option.bind_some, wr, AV.toB, AV.toI, AV.toS, if_true, hcell, hcl, hst, a1, a2, hl2, hm3]
    · intro h
      have h' : decide (((st.length + 1 : Nat) : Int) < most) = true := h
      have h2 := of_decide_eq_true h'
      show (((st ++ [g]).length : Nat) : Int) < most
      rw [List.length_append]; exact h2
theorem runL_first (most : Nat) : ∀ (L ls : List (List Int)), ls.length < most → (runL (stepF most) ls L).1 = ls ++ L.take (most - ls.length)
  | [], ls, h => by simp [runL]
  | x :: L, ls, h => by
    rw [runL]
    have e : most - ls.length = (most - (ls.length + 1)) + 1 := by omega
    by_cases c : ((ls.length + 1 : Nat) : Int) < (most : Int)
    · rw [if_pos (show (stepF most ls x).2 = true from decide_eq_true c)]
      show (runL (stepF most) (ls ++ [x]) L).1 = _
      rw [runL_first most L (ls ++ [x]) (by simp; omega), e]
      simp
    · rw [if_neg (by show ¬ decide (((ls.length + 1 : Nat) : Int) < (most : Int)) = true; simp; omega)]
      show ls ++ [x] = _
      have : most - ls.length = 1 := by omega
      rw [this]; simp
theorem sto_end {H : Hp} {x : AV} (v : AV) : ∃ H', (H ++ [some (Blk.mk false [x])]).sto H.length 0 [v] = some H' ∧ H <+: H' ∧ H'[H.length]? = some (some ⟨false, [v]⟩) ∧ H'.length = H.length + 1 := by
  obtain ⟨H', a, b, c, d⟩ := sto1' (H := H ++ [some (Blk.mk false [x])]) (b := H.length) (x := x) (by simp) v
  exact ⟨H', a, c.pf (H0 := H) (Nat.le_refl _) (List.prefix_append _ _) (by omega), b, by rw [d]; simp⟩

theorem solutions_gen {B H : Hp} (hB : B <+: H) {n : Int} {gs ss : Sl} {given : List Int} {rs : List R} {b c : Nat} (hzk : ∀ H', Adv2 b c H H' → PuzAt H' n gs ss given rs) (hnil : gs.nil = false) {σ : Type} {step : σ → List Int → σ × Bool} {T : Nat → Nat → σ × Bool → Hp → Prop} {K : Nat} {f : FuncId} {caps : List AV} (hbl : b < H.length) (hcl : c < H.length) (hcB : B.length ≤ c)
    (tell : ∀ d, H.length ≤ d → Tell B f caps b d step (T d) K) (st : σ) (hT : ∀ d H1, H.length ≤ d → d < H1.length → H <+: H1 → T d c (st, true) H1) {k : Nat} (hk : K + 2000400 ≤ k) :
    ∃ H' c' d, callF PP orc k impl_solutions.id [.agg [.int .i64 n, .sl 1 gs, .sl 3 ss], .sl 1 gs, .fn f caps] H = some (.tup [], H') ∧ B <+: H' ∧ Adv2 b c H H' ∧ T d c' (runL step st (allSols n given (rs.map R.val))) H' := by
  obtain ⟨k, rfl⟩ : ∃ q, k = q + 1 := ⟨k - 1, by omega⟩
  rw [impl_solutions.call]
  have hz := hzk H (pf_adv2 (List.prefix_refl _))
  have hgl := hz.gl
  obtain ⟨Ha, hHa⟩ : ∃ X, H ++ [some (Blk.mk false [.int .i64 n, .sl 1 gs, .sl 3 ss])] = X := ⟨_, rfl⟩
  obtain ⟨Hb, hHb⟩ : ∃ X, Ha ++ [some (Blk.mk false [.fn f caps])] = X := ⟨_, rfl⟩
  have la : Ha.length = H.length + 1 := by rw [← hHa]; simp
  have lb : Hb.length = H.length + 2 := by rw [← hHb]; simp; omega
  have pa : H <+: Ha := by rw [← hHa]; exact List.prefix_append _ _
  have pb : Ha <+: Hb := by rw [← hHb]; exact List.prefix_append _ _
  have ba : Ha[H.length]? = some (some ⟨false, [.int .i64 n, .sl 1 gs, .sl 3 ss]⟩) := by rw [← hHa]; simp
  have bb : Hb[Ha.length]? = some (some ⟨false, [.fn f caps]⟩) := by rw [← hHb]; simp
  have pBb := (hB.trans pa).trans pb
  have c1 := Clone_own (show 1 ≤ k by omega) (pf_reads (pa.trans pb) hz.rg) hnil (by omega)
  obtain ⟨Hc, hHc⟩ : ∃ X, Hb ++ [some (Blk.mk false (given.map (.int .i64)))] = X := ⟨_, rfl⟩
  rw [hHc] at c1
  have lc : Hc.length = H.length + 3 := by rw [← hHc]; simp; omega
  have pc : Hb <+: Hc := by rw [← hHc]; exact List.prefix_append _ _
  have hown : Own 1 Hb Hc (Sl.mk false Hb.length 0 given.length) (given.map (.int .i64)) := by rw [← hHc]; exact own_new 1 Hb _ _ (by simp)
  obtain ⟨Hd, d1, d2, d3, d4⟩ := sto_end (H := Hc) (x := .sl 1 Sl.none) (.sl 1 (Sl.mk false Hb.length 0 given.length))
  have qa := pf_get ((pb.trans pc).trans d2) ba
  have qb := pf_get (pc.trans d2) bb
  have pBd := (pBb.trans pc).trans d2
  have ho := own_pf hown d2
  have r1 : ldI .i64 Hd H.length 0 = some n := by unfold ldI Hp.cell; rw [qa]; simp [AV.toI]
  have r2 : ldS 1 Hd H.length (0 + 1) = some gs := by unfold ldS Hp.cell; rw [qa]; simp [AV.toS]
  have r3 : ldS 3 Hd H.length (0 + 1 + 1) = some ss := by unfold ldS Hp.cell; rw [qa]; simp [AV.toS]
  have r4 := box_sl d3
  obtain ⟨He, e1, e2⟩ := implPuzzleFits_ok (show 2000042 ≤ k by omega) (hz.pf (((pa.trans pb).trans pc).trans d2)) (own_reads ho) hgl
  have pHe : H <+: He := (((pa.trans pb).trans pc).trans d2).trans e2
  have hle := e2.length_le
  unfold allSols
  cases cf : puzzleFitsV n given (rs.map R.val) given with
  | false =>
    rw [cf] at e1
    rw [iN (by simp)]
    refine ⟨He, c, Hb.length, ?_, pBd.trans e2, pf_adv2 pHe, by rw [runL]; exact hT _ _ (by omega) (by omega) pHe⟩
    simp (disch := omega) only [impl_solutions.f, dt, df, bt, bf, nt, nf, Bool.and_self, Bool.not_true, Bool.not_false, cond_true, cond_false, Int.toNat_natCast, Int.toNat_zero, Int.toNat_one, Option.bind_some, wr, AV.toB, AV.toI, AV.toS, if_true, hHa, hHb, c1, d1, r1, r2, r3, r4, e1]
  | true =>
    rw [cf] at e1
    rw [ip rfl]
    unfold puzzleFitsV at cf
    simp only [Bool.and_eq_true] at cf
    obtain ⟨q1, q2, q3⟩ := puzzleV_iff cf.1
    have h16 := gridOk_len q1
    have ra := pf_get e2 qa
    have s1 : ldI .i64 He H.length (0 + 0) = some n := by unfold ldI Hp.cell; rw [ra]; simp [AV.toI]
    obtain ⟨Hf, f1, f2, f3, f4⟩ := sto_end (H := He) (x := .int .i64 0) (.int .i64 n)
    obtain ⟨Hg, g1, g2, g3, g4⟩ := sto_end (H := Hf) (x := .nilf) (.fn impl_solutions_1.id [.ptr Hc.length 0, .ptr Ha.length 0, .ptr Hf.length 0, .ptr He.length 0, .ptr H.length 0])
    have s2 := box_fn g3
    have pBg := ((pBd.trans e2).trans f2).trans g2
    have pHg := (pHe.trans f2).trans g2
    have hBH := hB.length_le
    have hog : Own 1 B Hg (Sl.mk false Hb.length 0 given.length) (given.map (.int .i64)) := own_base (own_pf ho ((e2.trans f2).trans g2)) pBb
    have hbx : Bx Hg Hc.length Ha.length Hf.length He.length H.length n (Sl.mk false Hb.length 0 given.length) gs ss f caps :=
      ⟨pf_get ((e2.trans f2).trans g2) d3, pf_get ((e2.trans f2).trans g2) qb, g3, pf_get g2 f3, pf_get (f2.trans g2) ra⟩
    obtain ⟨H', c', g', w1, w2, w3, w4, w5, w6, w7, w8⟩ := Sol_ok (tell Hb.length (by omega)) (gs := Sl.mk false Hb.length 0 given.length) (H0 := H) (c0 := c) hz.n4 hzk (by simp only; omega) q3 q1 (gb := Hc.length) (tb := Ha.length) (yb := Hf.length) (nb := He.length) (pb := H.length) ⟨(by first | omega | (simp only; omega) | (simp; omega)), (by first | omega | (simp only; omega) | (simp; omega)), (by first | omega | (simp only; omega) | (simp; omega)), (by first | omega | (simp only; omega) | (simp; omega)), (by first | omega | (simp only; omega) | (simp; omega))⟩ ⟨(by first | omega | (simp only; omega) | (simp; omega)), (by first | omega | (simp only; omega) | (simp; omega)), (by first | omega | (simp only; omega) | (simp; omega)), (by first | omega | (simp only; omega) | (simp; omega)), (by first | omega | (simp only; omega) | (simp; omega))⟩ given.length k (by omega) Hg given c st (Nat.le_refl _) pBg hbx ⟨(by first | omega | (simp only; omega) | (simp; omega)), (by first | omega | (simp only; omega) | (simp; omega)), (by first | omega | (simp only; omega) | (simp; omega)), (by first | omega | (simp only; omega) | (simp; omega)), (by first | omega | (simp only; omega) | (simp; omega))⟩ (by simp only; omega) hcB hog q1 (Le.refl given) cf.2.2 (hT _ _ (by omega) (by omega) pHg) (pf_adv2 pHg) (.inl rfl)
    rw [Nat.sub_self] at w1
    have w1' : callF PP orc k impl_solutions_1.id ([.int .i64 0] ++ [.ptr Hc.length 0, .ptr Ha.length 0, .ptr Hf.length 0, .ptr He.length 0, .ptr H.length 0]) Hg = _ := w1
    refine ⟨H', c', Hb.length, ?_, w2, ?_, w7⟩
    · have hcg : ([.int .i64 0] ++ [.ptr Hc.length 0, .ptr Ha.length 0, .ptr Hf.length 0, .ptr He.length 0, .ptr H.length 0] : List AV).all AV.glob = true := rfl
      simp (disch := omega) only [impl_solutions.f, dt, df, bt, bf, nt, nf, Bool.and_self, Bool.not_true, Bool.not_false, cond_true, cond_false, Int.toNat_natCast, Int.toNat_zero, Int.toNat_one, Option.bind_some, wr, AV.toB, AV.toI, AV.toS, if_true, hHa, hHb, c1, d1, r1, r2, r3, r4, e1, s1, f1, g1, s2, okSol, hcg, w1']
    · refine ⟨fun e x h1 h2 hx => ?_, by have := w3.le; have := pHg.length_le; omega⟩
      have hel := (List.getElem?_eq_some_iff.1 hx).1
      exact w3.but e x (by simp only; omega) h1 h2 (pf_get pHg hx)
theorem solutions_ok {B H : Hp} (hB : B <+: H) {n : Int} {gs ss : Sl} {given : List Int} {rs : List R} (hz : PuzAt B n gs ss given rs) (hnil : gs.nil = false) {σ : Type} {step : σ → List Int → σ × Bool} {T : Nat → Nat → σ × Bool → Hp → Prop} {K b c : Nat} {f : FuncId} {caps : List AV} (hbl : b < H.length) (hcl : c < H.length) (hbB : B.length ≤ b) (hcB : B.length ≤ c)
    (tell : ∀ d, H.length ≤ d → Tell B f caps b d step (T d) K) (st : σ) (hT : ∀ d H1, H.length ≤ d → d < H1.length → H <+: H1 → T d c (st, true) H1) {k : Nat} (hk : K + 2000400 ≤ k) :
    ∃ H' c' d, callF PP orc k impl_solutions.id [.agg [.int .i64 n, .sl 1 gs, .sl 3 ss], .sl 1 gs, .fn f caps] H = some (.tup [], H') ∧ B <+: H' ∧ Adv2 b c H H' ∧ T d c' (runL step st (allSols n given (rs.map R.val))) H' :=
  solutions_gen hB (fun H' a => hz.pf (a.pf hbB hcB hB)) hnil hbl hcl hcB tell st hT hk
theorem firstSolutions_ok {k : Nat} (hk : 2000500 ≤ k) {H : Hp} {n : Int} {gs s : Sl} {given : List Int} {rs : List R} (hz : PuzAt H n gs s given rs) (hnil : gs.nil = false) {most : Nat} (h0 : 1 ≤ most) (hmost : most ≤ 1000) :
    ∃ t H', callF PP orc k impl_firstSolutions.id [.agg [.int .i64 n, .sl 1 gs, .sl 3 s], .sl 1 gs, .int .i64 (most : Int)] H = some (.sl 1 t, H') ∧ H <+: H' ∧ ReadsL H H' t ((allSols n given (rs.map R.val)).take most) := by
  obtain ⟨k, rfl⟩ : ∃ q, k = q + 1 := ⟨k - 1, by omega⟩
  rw [impl_firstSolutions.call]
  obtain ⟨Ha, hHa⟩ : ∃ X, H ++ [some (Blk.mk false [.int .i64 (most : Int)])] = X := ⟨_, rfl⟩
  obtain ⟨Hb, hHb⟩ : ∃ X, Ha ++ [some (Blk.mk false ([] : List AV))] = X := ⟨_, rfl⟩
  have la : Ha.length = H.length + 1 := by rw [← hHa]; simp
  have lb : Hb.length = H.length + 2 := by rw [← hHb]; simp; omega
  have pa : H <+: Ha := by rw [← hHa]; exact List.prefix_append _ _
  have pb : Ha <+: Hb := by rw [← hHb]; exact List.prefix_append _ _
  have ba : Ha[H.length]? = some (some ⟨false, [.int .i64 (most : Int)]⟩) := by rw [← hHa]; simp
  have bb : Hb[Ha.length]? = some (some ⟨false, []⟩) := by rw [← hHb]; simp
  obtain ⟨Hc, c1, c2, c3, c4⟩ := sto_end (H := Hb) (x := .sl 1 Sl.none) (.sl 1 (Sl.mk false Ha.length 0 0))
  have pHc := (pa.trans pb).trans c2
  have ho1 : ∀ d, Hc.length ≤ d → OutD H Hb.length d Hc (Sl.mk false Ha.length 0 0) [] := fun d hd =>
    ⟨c3, by omega, by simp only; omega, by omega, by simp only; omega, [], ⟨rfl, rfl, by simp only; omega, pf_get c2 bb, rfl⟩, rfl, fun i hi => by simp at hi⟩
  obtain ⟨H', c', d, w1, w2, w3, ⟨⟨o, w4, w5⟩, w6, w7, w8, w9, w10, w11⟩⟩ := solutions_ok (B := H) (H := Hc) pHc hz hnil (b := Hb.length) (c := Ha.length) (K := 10) (T := TF H Hb.length H.length most) (step := stepF most) (f := impl_firstSolutions_1.id) (caps := [.ptr Hb.length 0, .ptr H.length 0]) (by omega) (by omega) (by omega) (by omega)
    (fun d hd => tell_first (by omega) (by omega) (by omega)) [] (fun d H1 h1 h2 h3 => ⟨⟨_, rfl, (ho1 d h1).pf h3⟩, pf_get (((pb.trans c2)).trans h3) ba, by omega, by omega, by omega, h2, fun _ => by simp; omega⟩) (show 10 + 2000400 ≤ k by omega)
  rw [runL_first most _ [] (by simp; omega)] at w5
  simp only [List.nil_append, List.length_nil, Nat.sub_zero] at w5
  have hl : ldS 1 H' Hb.length 0 = some o := box_sl w5.cell
  refine ⟨o, H', ?_, w2, w5.reads⟩
  simp (disch := omega) only [impl_firstSolutions.f, dt, df, bt, bf, nt, nf, Bool.and_self, Bool.not_true, Bool.not_false, cond_true, cond_false, Int.toNat_natCast, Int.toNat_zero, Int.toNat_one, Option.bind_some, wr, AV.toB, AV.toI, AV.toS, if_true, hHa, hHb, c1, w1, hl]
end Go.Proofs.Ytjikkamhljbipaa.Rp
/- Copies of rules and puzzles. No conditions. -/
set_option linter.unusedVariables false
set_option linter.unusedSimpArgs false
namespace Go.Proofs.Ytjikkamhljbipaa.Rp
open Go Go.RowKit Go.Proofs.Ytjikkamhljbipaa.Ab

theorem OwnRule_ok {k : Nat} (hk : 1 ≤ k) {H : Hp} {kind value : Int} {cs : Sl} {cells : List Int} (hs : Reads .i64 H cs cells) (hl : cells.length ≤ 1000) :
    callF PP orc k spec_l1OwnRule.id [.agg [.int .i64 kind, .sl 1 cs, .int .i64 value]] H = some (.agg [.int .i64 kind, .sl 1 (Sl.mk false H.length 0 cells.length), .int .i64 value], H ++ [some (Blk.mk false (cells.map (.int .i64)))]) := by
  obtain ⟨k, rfl⟩ : ∃ m, k = m + 1 := ⟨k - 1, by omega⟩
  rw [spec_l1OwnRule.call]
  simp only [spec_l1OwnRule.f, read_ok hs, hs.len, appl_ok H cells .i64 (by omega), Option.bind_some, cells_ok, Bool.and_self, cond_true]

theorem OwnRuleList_l0 {k : Nat} (hk : 1 ≤ k) {H0 : Hp} {s : Sl} {rs : List R} (hs : ReadsR H0 s rs) (hl : rs.length ≤ 1000) (hc : ∀ r ∈ rs, r.cells.length ≤ 1000) :
    ∀ (j i fuel : Nat) (H : Hp) (out : Sl) (qs : List R), i + j = rs.length → j < fuel → H0 <+: H → WR H0 H out qs → qs.map R.val = (rs.take i).map R.val →
      ∃ out' qs' H', spec_l1OwnRuleList.l0 (callF PP orc k) k fuel s out i H = some (.sl 3 out', H') ∧ H0 <+: H' ∧ WR H0 H' out' qs' ∧ qs'.map R.val = rs.map R.val := by
  intro j
  induction j with
  | zero =>
    intro i fuel H out qs hi hf hp ho hv
    obtain ⟨fuel, rfl⟩ : ∃ q, fuel = q + 1 := ⟨fuel - 1, by omega⟩
    have : ¬ ((i : Int) < (s.len : Int)) := by rw [hs.len]; omega
    refine ⟨out, qs, H, ?_, hp, ho, by rw [hv, List.take_of_length_le (by omega)]⟩
    simp only [spec_l1OwnRuleList.l0, spec_l1OwnRuleList.j1, this, decide_false, cond_false]
  | succ j ih =>
    intro i fuel H out qs hi hf hp ho hv
    obtain ⟨fuel, rfl⟩ : ∃ q, fuel = q + 1 := ⟨fuel - 1, by omega⟩
    have h2 : i < rs.length := by omega
    have hsH := pf_readsR hp hs
    have l0 : ldI .i64 H s.blk (s.off + i * 3) = some rs[i].kind := by unfold ldI; rw [hsH.c0 i h2]; simp [AV.toI]
    have l1 : ldS 1 H s.blk (s.off + i * 3 + 1) = some rs[i].sl := by unfold ldS; rw [hsH.c1 i h2]; simp [AV.toS]
    have l2 : ldI .i64 H s.blk (s.off + i * 3 + 1 + 1) = some rs[i].value := by unfold ldI; rw [show s.off + i * 3 + 1 + 1 = s.off + i * 3 + 2 from rfl, hsH.c2 i h2]; simp [AV.toI]
    have h4 := wrs (i := i) (by omega)
    have q0 : (0 : Int) ≤ (i : Int) := by omega
    have q2 : (i : Int) < (s.len : Int) := by rw [hs.len]; omega
    have hql : qs.length = i := by have := congrArg List.length hv; simp at this; omega
    have a1 := OwnRule_ok hk (kind := rs[i].kind) (value := rs[i].value) (hsH.cs i h2) (hc _ (List.getElem_mem h2))
    have g1 : H <+: H ++ [some (Blk.mk false (rs[i].cells.map (.int .i64)))] := List.prefix_append _ _
    have hnew := own_new 1 H (rs[i].cells.map (.int .i64)) rs[i].cells.length (by simp)
    have hout := own_lt ho.own
    obtain ⟨out1, H2, b1, b2, b3, b4, b5, b6⟩ := wr_app (ho.pf g1) (hp.trans g1) (by omega) { kind := rs[i].kind, sl := Sl.mk false H.length 0 rs[i].cells.length, cells := rs[i].cells, value := rs[i].value } (own_reads hnew) (by simp only; omega) (by simp) hp.length_le rfl
    obtain ⟨out', qs', H', d1, d2, d3, d4⟩ := ih (i + 1) fuel H2 out1 _ (by omega) (by omega) b2 b3 (by
      rw [List.take_succ_eq_append_getElem h2, List.map_append, List.map_append, hv]; rfl)
    push_cast at d1
    refine ⟨out', qs', H', ?_, d2, d3, d4⟩
    simp only [R.av] at b1
    simp only [spec_l1OwnRuleList.l0, q0, q2, decide_true, Bool.and_self, cond_true, Int.toNat_natCast, l0, l1, l2, Option.bind_some, a1, AV.isAgg, AV.cel, List.length_cons, List.length_nil, List.getD_cons_zero, List.getD_cons_succ, AV.toI, AV.toS, if_true, b1, h4, d1]
    try rfl

theorem OwnRuleList_ok {k : Nat} (hk : 2000001 ≤ k) {H : Hp} {s : Sl} {rs : List R} (hs : ReadsR H s rs) (hl : rs.length ≤ 1000) (hc : ∀ r ∈ rs, r.cells.length ≤ 1000) :
    ∃ t qs H', callF PP orc k spec_l1OwnRuleList.id [.sl 3 s] H = some (.sl 3 t, H') ∧ H <+: H' ∧ WR H H' t qs ∧ qs.map R.val = rs.map R.val := by
  obtain ⟨k, rfl⟩ : ∃ m, k = m + 1 := ⟨k - 1, by omega⟩
  rw [spec_l1OwnRuleList.call]
  exact OwnRuleList_l0 (show 1 ≤ k by omega) hs hl hc rs.length 0 k (H ++ [some (Blk.mk false [])]) (Sl.mk false H.length 0 0) [] (by omega) (by omega) (List.prefix_append _ _)
    ⟨own_new 3 H [] 0 rfl, fun i hi => absurd hi (Nat.not_lt_zero _), fun i hi => absurd hi (Nat.not_lt_zero _), fun i hi => absurd hi (Nat.not_lt_zero _), fun i hi => absurd hi (Nat.not_lt_zero _), fun i hi => absurd hi (Nat.not_lt_zero _)⟩ (by simp)

theorem OwnPuzzle_ok {k : Nat} (hk : 2000002 ≤ k) {H : Hp} {n : Int} {gs s : Sl} {g : List Int} {rs : List R} (hg : Reads .i64 H gs g) (hgl : g.length ≤ 1000) (hs : ReadsR H s rs) (hl : rs.length ≤ 1000) (hc : ∀ r ∈ rs, r.cells.length ≤ 1000) :
    ∃ gt t qs H', callF PP orc k spec_l1OwnPuzzle.id [.agg [.int .i64 n, .sl 1 gs, .sl 3 s]] H = some (.agg [.int .i64 n, .sl 1 gt, .sl 3 t], H') ∧ H <+: H' ∧ Own 1 H H' gt (g.map (.int .i64)) ∧ WR H H' t qs ∧ qs.map R.val = rs.map R.val := by
  obtain ⟨k, rfl⟩ : ∃ m, k = m + 1 := ⟨k - 1, by omega⟩
  rw [spec_l1OwnPuzzle.call]
  have g1 : H <+: H ++ [some (Blk.mk false (g.map (.int .i64)))] := List.prefix_append _ _
  have hnew := own_new 1 H (g.map (.int .i64)) g.length (by simp)
  obtain ⟨t, qs, H', a1, a2, a3, a4⟩ := OwnRuleList_ok (show 2000001 ≤ k by omega) (pf_readsR g1 hs) hl hc
  refine ⟨_, t, qs, H', ?_, g1.trans a2, own_pf hnew a2, ⟨own_base a3.own g1, a3.rd, a3.ne, a3.lt, fun i hi => Nat.le_trans g1.length_le (a3.lo i hi), a3.nn⟩, a4⟩
  simp only [spec_l1OwnPuzzle.f, read_ok hg, hg.len, appl_ok H g .i64 (by omega), Option.bind_some, cells_ok, Bool.and_self, cond_true, a1, AV.toS, if_true]

theorem Without_ok {k : Nat} (hk : 1 ≤ k) {H : Hp} {n : Int} {gs s : Sl} {g : List Int} (hg : Reads .i64 H gs g) (hgl : g.length ≤ 1000) (i : Nat) (hi : i < g.length) :
    ∃ H', callF PP orc k spec_l10Without.id [.agg [.int .i64 n, .sl 1 gs, .sl 3 s], .int .i64 i] H = some (.agg [.int .i64 n, .sl 1 (Sl.mk false H.length 0 g.length), .sl 3 s], H') ∧ H <+: H' ∧ Own 1 H H' (Sl.mk false H.length 0 g.length) ((g.set i 0).map (.int .i64)) := by
  obtain ⟨k, rfl⟩ : ∃ m, k = m + 1 := ⟨k - 1, by omega⟩
  rw [spec_l10Without.call]
  have hnew := own_new 1 H (g.map (.int .i64)) g.length (by simp)
  obtain ⟨H', a1, a2, a3, a4⟩ := own_set hnew (List.prefix_append _ _) i hi 0
  have q0 : (0 : Int) ≤ (i : Int) := by omega
  have q1 : (i : Int) < (g.length : Int) := by omega
  have a1' : (H ++ [some (Blk.mk false (g.map (.int .i64)))]).sto H.length (0 + i) [.int .i64 0] = some H' := a1
  refine ⟨H', ?_, a2, a3⟩
  simp only [spec_l10Without.f, read_ok hg, hg.len, appl_ok H g .i64 (by omega), Option.bind_some, cells_ok, Bool.and_self, cond_true, q0, q1, decide_true, Int.toNat_natCast, Nat.mul_one, a1']
end Go.Proofs.Ytjikkamhljbipaa.Rp
/- Puzzles with one solution, made minimal: the model's side of the program. No conditions. -/
set_option linter.unusedVariables false
set_option linter.unusedSimpArgs false
namespace Go.Proofs.Ytjikkamhljbipaa.Rp
open Go Go.RowKit Go.Proofs.Ytjikkamhljbipaa.Ab

def oneV (n : Int) (given : List Int) (vs : List V) : Bool := decide (((allSols n given vs).take 2).length = 1)
def redundantV (n : Int) (given : List Int) (vs : List V) (c : Int) : Bool :=
  puzzleV n given vs && (decide (0 ≤ c ∧ c ≤ (given.length : Int) - 1) && (decide (given.getD c.toNat 0 > 0) && (oneV n given vs && oneV n (given.set c.toNat 0) vs)))
def minFrom (n : Int) (vs : List V) : List Int → Nat → Nat → List Int
  | g, _, 0 => g
  | g, i, j + 1 => minFrom n vs (if redundantV n g vs i = true then g.set i 0 else g) (i + 1) j
def minimalOk (n : Int) (given : List Int) (vs : List V) : Bool := puzzleV n given vs && oneV n given vs
def minimalV (n : Int) (given : List Int) (vs : List V) : List Int := minFrom n vs given 0 given.length
theorem minFrom_len (n : Int) (vs : List V) : ∀ (j i : Nat) (g : List Int), (minFrom n vs g i j).length = g.length
  | 0, _, _ => rfl
  | j + 1, i, g => by
    rw [minFrom, minFrom_len n vs j]
    split
    · exact List.length_set
    · rfl

theorem specOne_ok {k : Nat} (hk : 2000201 ≤ k) {H : Hp} {n : Int} {gs s : Sl} {given : List Int} {rs : List R} (hz : PuzAt H n gs s given rs) :
    ∃ H', callF PP orc k spec_l10One.id [.agg [.int .i64 n, .sl 1 gs, .sl 3 s]] H = some (.bool (oneV n given (rs.map R.val)), H') ∧ H <+: H' := by
  obtain ⟨k, rfl⟩ : ∃ q, k = q + 1 := ⟨k - 1, by omega⟩
  rw [spec_l10One.call]
  obtain ⟨t, H1, a1, a2, a3⟩ := specl5All_ok (show 2000200 ≤ k by omega) hz (most := 2) (by omega) (by omega)
  have e : ((t.len : Int) == 1) = oneV n given (rs.map R.val) := by
    unfold oneV
    rw [a3.len, Bool.eq_iff_iff]; simp; omega
  refine ⟨H1, ?_, a2⟩
  have a1' : callF PP orc k spec_l5All.id [.agg [.int .i64 n, .sl 1 gs, .sl 3 s], .int .i64 2] H = some (.sl 1 t, H1) := a1
  simp only [spec_l10One.f, dt, df, bt, bf, nt, nf, Bool.and_self, Bool.not_true, Bool.not_false, cond_true, cond_false, Int.toNat_natCast, Int.toNat_zero, Int.toNat_one, Option.bind_some, wr, AV.toB, AV.toI, AV.toS, if_true, a1', e]
theorem PuzAt.set {H H' : Hp} {n : Int} {gs gt s : Sl} {given g : List Int} {rs : List R} (h : PuzAt H n gs s given rs) (p : H <+: H') (hr : Reads .i64 H' gt g) (hl : g.length = given.length) : PuzAt H' n gt s g rs :=
  ⟨hr, pf_readsR p h.rr, h.n4, by rw [hl]; exact h.gl, h.rl, h.rc⟩
theorem specIsRedundant_ok {k : Nat} (hk : 2000202 ≤ k) {H : Hp} {n : Int} {gs s : Sl} {given : List Int} {rs : List R} (hz : PuzAt H n gs s given rs) (c : Int) :
    ∃ H', callF PP orc k spec_IsRedundant.id [.agg [.int .i64 n, .sl 1 gs, .sl 3 s], .int .i64 c] H = some (.bool (redundantV n given (rs.map R.val) c), H') ∧ H <+: H' := by
  obtain ⟨k, rfl⟩ : ∃ q, k = q + 1 := ⟨k - 1, by omega⟩
  rw [spec_IsRedundant.call]
  have h1 := specPuzzleValid_ok (show 2000003 ≤ k by omega) hz.n4 hz.rg hz.gl hz.rr hz.rl hz.rc
  rw [puzzle_map] at h1
  have hgl := hz.rg.len
  have hgl2 := hz.gl
  have hl1 := fun n a b H => l1In_ok (show 1 ≤ k by omega) n a b H
  unfold redundantV
  cases c1 : puzzleV n given (rs.map R.val) with
  | false =>
    rw [c1] at h1
    exact ⟨H, by simp only [spec_IsRedundant.f, dt, df, bt, bf, nt, nf, Bool.and_self, Bool.not_true, Bool.not_false, cond_true, cond_false, Int.toNat_natCast, Int.toNat_zero, Int.toNat_one, Option.bind_some, wr, AV.toB, AV.toI, AV.toS, if_true, h1, Bool.false_and], (List.prefix_refl _)⟩
  | true =>
    rw [c1] at h1
    by_cases c2 : 0 ≤ c ∧ c ≤ (given.length : Int) - 1
    · by_cases c3 : given.getD c.toNat 0 > 0
      · obtain ⟨H1, a1, a2⟩ := specOne_ok (show 2000201 ≤ k by omega) hz
        cases c4 : oneV n given (rs.map R.val) with
        | true =>
          rw [c4] at a1
          obtain ⟨H2, b1, b2, b3⟩ := Without_ok (show 1 ≤ k by omega) (n := n) (s := s) (pf_reads a2 hz.rg) hz.gl c.toNat (by omega)
          rw [show ((c.toNat : Nat) : Int) = c by omega] at b1
          obtain ⟨H3, d1, d2⟩ := specOne_ok (show 2000201 ≤ k by omega) (hz.set (a2.trans b2) (own_reads b3) (by simp))
          refine ⟨H3, ?_, a2.trans (b2.trans d2)⟩
          simp (disch := omega) only [spec_IsRedundant.f, dt, df, bt, bf, nt, nf, Bool.and_self, Bool.not_true, Bool.not_false, cond_true, cond_false, Int.toNat_natCast, Int.toNat_zero, Int.toNat_one, Option.bind_some, wr, AV.toB, AV.toI, AV.toS, if_true, h1, hl1, hgl, rdn hz.rg, a1, b1, d1, AV.isAgg, AV.cel, List.length_cons, List.length_nil, List.getD_cons_zero, List.getD_cons_succ, Bool.true_and]
          rfl
        | false =>
          rw [c4] at a1
          refine ⟨H1, ?_, a2⟩
          simp (disch := omega) only [spec_IsRedundant.f, dt, df, bt, bf, nt, nf, Bool.and_self, Bool.not_true, Bool.not_false, cond_true, cond_false, Int.toNat_natCast, Int.toNat_zero, Int.toNat_one, Option.bind_some, wr, AV.toB, AV.toI, AV.toS, if_true, h1, hl1, hgl, rdn hz.rg, a1, Bool.true_and, Bool.false_and]
      · refine ⟨H, ?_, (List.prefix_refl _)⟩
        simp (disch := omega) only [spec_IsRedundant.f, dt, df, bt, bf, nt, nf, Bool.and_self, Bool.not_true, Bool.not_false, cond_true, cond_false, Int.toNat_natCast, Int.toNat_zero, Int.toNat_one, Option.bind_some, wr, AV.toB, AV.toI, AV.toS, if_true, h1, hl1, hgl, rdn hz.rg, Bool.true_and, Bool.false_and]
    · refine ⟨H, ?_, (List.prefix_refl _)⟩
      simp (disch := omega) only [spec_IsRedundant.f, dt, df, bt, bf, nt, nf, Bool.and_self, Bool.not_true, Bool.not_false, cond_true, cond_false, Int.toNat_natCast, Int.toNat_zero, Int.toNat_one, Option.bind_some, wr, AV.toB, AV.toI, AV.toS, if_true, h1, hl1, hgl, df c2, Bool.true_and, Bool.false_and]

theorem read3_ok {H0 H : Hp} {s : Sl} {c : List AV} (h : Own 3 H0 H s c) : H.read 3 s = some c := by
  unfold Hp.read
  have hl := h.len
  by_cases h0 : s.len = 0
  · rw [if_pos h0]
    have : c = [] := List.length_eq_zero_iff.1 (by omega)
    subst this; rfl
  · rw [if_neg h0, h.get]
    simp only [h.off]
    rw [if_pos (by omega), List.drop_zero, List.take_of_length_le (by omega)]
theorem appl3_ok (H : Hp) (c : List AV) (n : Nat) (hn : n ≤ 1000000) (hc : c.length = n * 3) : H.appl 3 [] 0 n c = some (Sl.mk false H.length 0 n, H ++ [some (Blk.mk false c)]) := by
  unfold Hp.appl
  rw [if_pos (by simp; omega)]
  simp
theorem cells3_ok (rs : List R) : (rs.flatMap R.av).all AV.cell = true := by
  rw [List.all_eq_true]
  intro x hx
  obtain ⟨r, _, hr⟩ := List.mem_flatMap.1 hx
  simp [R.av] at hr
  rcases hr with rfl | rfl | rfl <;> rfl
theorem val_cells {rs qs : List R} (h : qs.map R.val = rs.map R.val) (m : Nat) (hc : ∀ r ∈ rs, r.cells.length ≤ m) : ∀ r ∈ qs, r.cells.length ≤ m := fun q hq => by
  have : q.val ∈ rs.map R.val := h ▸ List.mem_map_of_mem hq
  obtain ⟨r, hr, e⟩ := List.mem_map.1 this
  have e2 : r.cells = q.cells := congrArg (·.2.1) e
  rw [← e2]; exact hc r hr

theorem Minimal_l2 {k : Nat} (hk : 2000202 ≤ k) {B0 B : Hp} (h0 : B0 <+: B) {n n0 : Int} {gs s g0 s0 : Sl} {given : List Int} {rs : List R} (hz : PuzAt B n gs s given rs) :
    ∀ (j i fuel : Nat) (H : Hp) (gt : Sl) (g : List Int), i + j = given.length → j < fuel → B <+: H → g.length = given.length → Own 1 B0 H gt (g.map (.int .i64)) →
      ∃ gt' H', spec_MakeMinimal.l2 (callF PP orc k) k fuel i n0 g0 s0 n gt s H = some (.tup [.agg [.int .i64 n, .sl 1 gt', .sl 3 s], .bool true], H') ∧ B <+: H' ∧ Own 1 B0 H' gt' ((minFrom n (rs.map R.val) g i j).map (.int .i64)) := by
  have hgl := hz.gl
  intro j
  induction j with
  | zero =>
    intro i fuel H gt g hi hf hp hl ho
    obtain ⟨fuel, rfl⟩ : ∃ q, fuel = q + 1 := ⟨fuel - 1, by omega⟩
    have hgt := (own_reads ho).len
    refine ⟨gt, H, ?_, hp, ho⟩
    simp (disch := omega) only [spec_MakeMinimal.l2, spec_MakeMinimal.j4, dt, df, bt, bf, nt, nf, Bool.and_self, Bool.not_true, Bool.not_false, cond_true, cond_false, Int.toNat_natCast, Int.toNat_zero, Int.toNat_one, Option.bind_some, wr, AV.toB, AV.toI, AV.toS, if_true]
  | succ j ih =>
    intro i fuel H gt g hi hf hp hl ho
    obtain ⟨fuel, rfl⟩ : ∃ q, fuel = q + 1 := ⟨fuel - 1, by omega⟩
    have hgt := (own_reads ho).len
    obtain ⟨H1, a1, a2⟩ := specIsRedundant_ok hk (hz.set hp (own_reads ho) hl) (i : Int)
    rw [minFrom]
    cases c : redundantV n g (rs.map R.val) i with
    | true =>
      rw [c] at a1
      rw [ip rfl]
      obtain ⟨H2, b1, b2, b3⟩ := Without_ok (show 1 ≤ k by omega) (n := n) (s := s) (pf_reads a2 (own_reads ho)) (by omega) i (by omega)
      obtain ⟨gt', H', d1, d2, d3⟩ := ih (i + 1) fuel H2 _ (g.set i 0) (by omega) (by omega) (hp.trans (a2.trans b2)) (by simpa using hl) (own_base b3 (h0.trans (hp.trans a2)))
      push_cast at d1
      refine ⟨gt', H', ?_, d2, d3⟩
      simp (disch := omega) only [spec_MakeMinimal.l2, spec_MakeMinimal.j3, dt, df, bt, bf, nt, nf, Bool.and_self, Bool.not_true, Bool.not_false, cond_true, cond_false, Int.toNat_natCast, Int.toNat_zero, Int.toNat_one, Option.bind_some, wr, AV.toB, AV.toI, AV.toS, if_true, a1, b1, AV.isAgg, AV.cel, List.length_cons, List.length_nil, List.getD_cons_zero, List.getD_cons_succ, d1]
      rfl
    | false =>
      rw [c] at a1
      rw [iN (by simp)]
      obtain ⟨gt', H', d1, d2, d3⟩ := ih (i + 1) fuel H1 gt g (by omega) (by omega) (hp.trans a2) hl (own_pf ho a2)
      push_cast at d1
      refine ⟨gt', H', ?_, d2, d3⟩
      simp (disch := omega) only [spec_MakeMinimal.l2, spec_MakeMinimal.j3, dt, df, bt, bf, nt, nf, Bool.and_self, Bool.not_true, Bool.not_false, cond_true, cond_false, Int.toNat_natCast, Int.toNat_zero, Int.toNat_one, Option.bind_some, wr, AV.toB, AV.toI, AV.toS, if_true, a1, d1]

theorem specMakeMinimal_ok {k : Nat} (hk : 2000300 ≤ k) {H : Hp} {n : Int} {gs s : Sl} {given : List Int} {rs : List R} (hz : PuzAt H n gs s given rs) :
    ∃ H', H <+: H' ∧ ((minimalOk n given (rs.map R.val) = false ∧ callF PP orc k spec_MakeMinimal.id [.agg [.int .i64 n, .sl 1 gs, .sl 3 s]] H = some (.tup [.agg [.int .i64 0, .sl 1 Sl.none, .sl 3 Sl.none], .bool false], H')) ∨
      (minimalOk n given (rs.map R.val) = true ∧ ∃ gt st qs, callF PP orc k spec_MakeMinimal.id [.agg [.int .i64 n, .sl 1 gs, .sl 3 s]] H = some (.tup [.agg [.int .i64 n, .sl 1 gt, .sl 3 st], .bool true], H') ∧ Own 1 H H' gt ((minimalV n given (rs.map R.val)).map (.int .i64)) ∧ WR H H' st qs ∧ qs.map R.val = rs.map R.val ∧ ∀ i, (h : i < qs.length) → qs[i].sl.blk ≠ gt.blk)) := by
  obtain ⟨k, rfl⟩ : ∃ q, k = q + 1 := ⟨k - 1, by omega⟩
  rw [spec_MakeMinimal.call]
  obtain ⟨gt, t, qs, H1, a1, a2, a3, a4, a5⟩ := OwnPuzzle_ok (show 2000002 ≤ k by omega) (n := n) hz.rg hz.gl hz.rr hz.rl hz.rc
  have hql : qs.length = rs.length := by have := congrArg List.length a5; simpa using this
  have hzl := hz.rl
  have hz1 : PuzAt H1 n gt t given qs := ⟨own_reads a3, a4.reads, hz.n4, hz.gl, by rw [hql]; exact hz.rl, val_cells a5 1000 hz.rc⟩
  have h1 := specPuzzleValid_ok (show 2000003 ≤ k by omega) hz1.n4 hz1.rg hz1.gl hz1.rr hz1.rl hz1.rc
  rw [puzzle_map, a5] at h1
  unfold minimalOk
  cases c1 : puzzleV n given (rs.map R.val) with
  | false =>
    rw [c1] at h1
    refine ⟨H1, a2, .inl ⟨rfl, ?_⟩⟩
    simp only [spec_MakeMinimal.f, spec_MakeMinimal.j0, dt, df, bt, bf, nt, nf, Bool.and_self, Bool.not_true, Bool.not_false, cond_true, cond_false, Int.toNat_natCast, Int.toNat_zero, Int.toNat_one, Option.bind_some, wr, AV.toB, AV.toI, AV.toS, if_true, a1, h1, AV.isAgg, AV.cel, List.length_cons, List.length_nil, List.getD_cons_zero, List.getD_cons_succ]
    rfl
  | true =>
    rw [c1] at h1
    obtain ⟨H2, b1, b2⟩ := specOne_ok (show 2000201 ≤ k by omega) hz1
    rw [a5] at b1
    cases c2 : oneV n given (rs.map R.val) with
    | false =>
      rw [c2] at b1
      refine ⟨H2, a2.trans b2, .inl ⟨rfl, ?_⟩⟩
      simp only [spec_MakeMinimal.f, spec_MakeMinimal.j0, dt, df, bt, bf, nt, nf, Bool.and_self, Bool.not_true, Bool.not_false, cond_true, cond_false, Int.toNat_natCast, Int.toNat_zero, Int.toNat_one, Option.bind_some, wr, AV.toB, AV.toI, AV.toS, if_true, a1, h1, b1, AV.isAgg, AV.cel, List.length_cons, List.length_nil, List.getD_cons_zero, List.getD_cons_succ]
      rfl
    | true =>
      rw [c2] at b1
      have r1 := own_pf a3 b2
      have r2 := a4.pf b2
      have rgl := (own_reads r1).len
      have rsl := r2.reads.len
      have hgz := hz.gl
      have p1 : H <+: H2 := a2.trans b2
      have g1 : H2 <+: H2 ++ [some (Blk.mk false (given.map (.int .i64)))] := List.prefix_append _ _
      have g2 : H2 ++ [some (Blk.mk false (given.map (.int .i64)))] <+: H2 ++ [some (Blk.mk false (given.map (.int .i64)))] ++ [some (Blk.mk false (qs.flatMap R.av))] := List.prefix_append _ _
      have o1 := own_new 1 H2 (given.map (.int .i64)) given.length (by simp)
      have o2 := own_new 3 (H2 ++ [some (Blk.mk false (given.map (.int .i64)))]) (qs.flatMap R.av) qs.length (by rw [flat_length])
      have w2 : WR H (H2 ++ [some (Blk.mk false (given.map (.int .i64)))] ++ [some (Blk.mk false (qs.flatMap R.av))]) (Sl.mk false (H2 ++ [some (Blk.mk false (given.map (.int .i64)))]).length 0 qs.length) qs :=
        ⟨own_base o2 (p1.trans g1), fun i hi => pf_reads (g1.trans g2) (r2.rd i hi), fun i hi => by have := r2.lt i hi; simp; omega, fun i hi => by have := r2.lt i hi; simp; omega, r2.lo, r2.nn⟩
      have hz2 : PuzAt (H2 ++ [some (Blk.mk false (given.map (.int .i64)))] ++ [some (Blk.mk false (qs.flatMap R.av))]) n (Sl.mk false H2.length 0 given.length) (Sl.mk false (H2 ++ [some (Blk.mk false (given.map (.int .i64)))]).length 0 qs.length) given qs :=
        ⟨pf_reads g2 (own_reads o1), w2.reads, hz.n4, hz.gl, by omega, hz1.rc⟩
      obtain ⟨gt', H', d1, d2, d3⟩ := Minimal_l2 (show 2000202 ≤ k by omega) (n0 := 0) (g0 := Sl.none) (s0 := Sl.none) (g1.trans g2) hz2 given.length 0 k (H2 ++ [some (Blk.mk false (given.map (.int .i64)))] ++ [some (Blk.mk false (qs.flatMap R.av))]) (Sl.mk false H2.length 0 given.length) given (by omega) (by omega) (List.prefix_refl _) rfl (own_pf o1 g2)
      rw [a5] at d3
      refine ⟨H', p1.trans (g1.trans (g2.trans d2)), .inr ⟨rfl, gt', _, qs, ?_, own_base d3 p1, w2.pf d2, a5, fun i hi => by have := r2.lt i hi; have := d3.blk; omega⟩⟩
      simp only [Int.natCast_zero] at d1
      simp (disch := omega) only [spec_MakeMinimal.f, spec_MakeMinimal.j0, spec_MakeMinimal.j1, dt, df, bt, bf, nt, nf, Bool.and_self, Bool.not_true, Bool.not_false, cond_true, cond_false, Int.toNat_natCast, Int.toNat_zero, Int.toNat_one, Option.bind_some, wr, AV.toB, AV.toI, AV.toS, if_true, a1, h1, b1, AV.isAgg, AV.cel, List.length_cons, List.length_nil, List.getD_cons_zero, List.getD_cons_succ, read_ok (own_reads r1), rgl, appl_ok, cells_ok]
      rw [show H2 ++ [some (Blk.mk false (given.map (AV.int .i64)))] = (H2 ++ [some (Blk.mk false (given.map (AV.int .i64)))]) from rfl, read3_ok (own_pf r2.own g1), Option.bind_some, rsl, appl3_ok _ _ _ (by omega) (flat_length qs)]
      simp only [Option.bind_some, cells3_ok, Bool.and_self, cond_true, d1]
      rfl
end Go.Proofs.Ytjikkamhljbipaa.Rp
/- Functions of the program as plain Lean functions. No conditions. -/
set_option linter.unusedVariables false
set_option linter.unusedSimpArgs false
set_option maxRecDepth 100000
namespace Go.Proofs.Ytjikkamhljbipaa.Rp
open Go Go.Proofs.Ytjikkamhljbipaa.Ab
noncomputable def impl_copyPuzzle.body : Code := (Go.Proofs.Try.f72).body.getD .skip
noncomputable def impl_copyPuzzle.j1 (rec : Rec) (k : Nat) (y2_0 : Int) (y2_1 : Sl) (y2_2 : Sl) (y3_0 : Int) (y3_1 : Sl) (y3_2 : Sl) (H : Hp) : An := some (.agg [.int .i64 y3_0, .sl 1 y3_1, .sl 3 y3_2], H)
noncomputable def impl_copyPuzzle.l0 (rec : Rec) (k : Nat) : Nat → Sl → Int → Int → Int → Sl → Sl → Int → Sl → Sl → Hp → An
  | 0, _, _, _, _, _, _, _, _, _, _ => none
  | n + 1, x13, x14, x15, y2_0, y2_1, y2_2, y3_0, y3_1, y3_2, H => bif decide (x15 < x14) then bif decide (0 ≤ (x15 : Int)) && decide ((x15 : Int) < x13.len) then (ldI .i64 H x13.blk (x13.off + (x15 : Int).toNat * 3)).bind fun n3 => (ldS 1 H x13.blk (x13.off + (x15 : Int).toNat * 3 + 1)).bind fun s4 => (ldI .i64 H x13.blk (x13.off + (x15 : Int).toNat * 3 + 1 + 1)).bind fun n5 => (rec slices_Clone_int.id [.sl 1 s4] H).bind fun r6 => (r6.1.toS 1).bind fun s7 => (r6.2.app 3 y3_2 1 [.int .i64 n3, .sl 1 s7, .int .i64 n5]).bind fun w8 => (impl_copyPuzzle.l0 rec k n) x13 x14 (IntKind.i64.wrap (x15 + 1)) y2_0 y2_1 y2_2 y3_0 y3_1 w8.1 w8.2 else none else impl_copyPuzzle.j1 rec k y2_0 y2_1 y2_2 y3_0 y3_1 y3_2 H
noncomputable def impl_copyPuzzle.f (rec : Rec) (k : Nat) (a0_0 : Int) (a0_1 : Sl) (a0_2 : Sl) (H : Hp) : An := (rec slices_Clone_int.id [.sl 1 a0_1] H).bind fun r1 => (r1.1.toS 1).bind fun s2 => impl_copyPuzzle.l0 rec k k a0_2 (a0_2.len : Int) 0 0 Sl.none Sl.none a0_0 s2 Sl.none r1.2
theorem impl_copyPuzzle.j1_eq (rec : Rec) (k : Nat) : ∀ y2_0 y2_1 y2_2 y3_0 y3_1 y3_2 H, impl_copyPuzzle.j1 rec k y2_0 y2_1 y2_2 y3_0 y3_1 y3_2 H = ex PP (orc impl_copyPuzzle.id) rec k (sub impl_copyPuzzle.body [1, 1, 1]) (St.of 31 [(2, .lp 2 0), (3, .lp 3 0)] [(2, [.int .i64 y2_0, .sl 1 y2_1, .sl 3 y2_2]), (3, [.int .i64 y3_0, .sl 1 y3_1, .sl 3 y3_2])]) H (kAt PP (orc impl_copyPuzzle.id) rec k impl_copyPuzzle.body [1, 1, 1] [] (K0 PP Go.Proofs.Try.f72)) := by
  intros y2_0 y2_1 y2_2 y3_0 y3_1 y3_2 H
  unfold impl_copyPuzzle.j1
  kernel_rfl
theorem impl_copyPuzzle.l0_eq (rec : Rec) (k : Nat) : ∀ n x13 x14 x15 y2_0 y2_1 y2_2 y3_0 y3_1 y3_2 H, impl_copyPuzzle.l0 rec k n x13 x14 x15 y2_0 y2_1 y2_2 y3_0 y3_1 y3_2 H = iter ((orc impl_copyPuzzle.id).at (lbody (sub impl_copyPuzzle.body [1, 1, 0, 1, 0]))) (ex PP (orc impl_copyPuzzle.id) rec k (lbody (sub impl_copyPuzzle.body [1, 1, 0, 1, 0]))) (kAt PP (orc impl_copyPuzzle.id) rec k impl_copyPuzzle.body [1, 1, 0, 1, 0] [] (K0 PP Go.Proofs.Try.f72)) n (St.of 31 [(2, .lp 2 0), (3, .lp 3 0), (13, .sl 3 x13), (14, .int .i64 x14), (15, .int .i64 x15)] [(2, [.int .i64 y2_0, .sl 1 y2_1, .sl 3 y2_2]), (3, [.int .i64 y3_0, .sl 1 y3_1, .sl 3 y3_2])]) H := by
  intro n
  induction n with
  | zero => intros; rfl
  | succ n ih =>
    intros x13 x14 x15 y2_0 y2_1 y2_2 y3_0 y3_1 y3_2 H
    simp only [impl_copyPuzzle.l0, impl_copyPuzzle.j1_eq rec k, ih, -eq_self]
    kernel_rfl
theorem impl_copyPuzzle.f_eq (rec : Rec) (k : Nat) : ∀ a0_0 a0_1 a0_2 H, impl_copyPuzzle.f rec k a0_0 a0_1 a0_2 H = ex PP (orc impl_copyPuzzle.id) rec k impl_copyPuzzle.body (St.of 31 [(0, .agg [.int .i64 a0_0, .sl 1 a0_1, .sl 3 a0_2])] []) H (K0 PP Go.Proofs.Try.f72) := by
  intros a0_0 a0_1 a0_2 H
  unfold impl_copyPuzzle.f
  try simp only [impl_copyPuzzle.l0_eq rec k, -eq_self]
  kernel_rfl
theorem impl_copyPuzzle.call (k : Nat) : ∀ a0_0 a0_1 a0_2 H, callF PP orc (k + 1) impl_copyPuzzle.id [.agg [.int .i64 a0_0, .sl 1 a0_1, .sl 3 a0_2]] H = impl_copyPuzzle.f (callF PP orc k) k a0_0 a0_1 a0_2 H := by
  intros a0_0 a0_1 a0_2 H
  rw [callF_at (fn := Go.Proofs.Try.f72) (c := impl_copyPuzzle.body) Go.Proofs.Try.func72 (by kernel_rfl) (Nat.le_of_ble_eq_true (by kernel_rfl)), impl_copyPuzzle.f_eq]
  kernel_rfl
noncomputable def impl_without.body : Code := (Go.Proofs.Try.f70).body.getD .skip
noncomputable def impl_without.j1 (rec : Rec) (k : Nat) (y4_0 : Int) (y4_1 : Sl) (y4_2 : Sl) (y5_0 : Int) (y5_1 : Sl) (y5_2 : Sl) (H : Hp) : An := some (.agg [.int .i64 y5_0, .sl 1 y5_1, .sl 3 y5_2], H)
noncomputable def impl_without.l0 (rec : Rec) (k : Nat) : Nat → Sl → Int → Int → Int → Sl → Sl → Int → Sl → Sl → Hp → An
  | 0, _, _, _, _, _, _, _, _, _, _ => none
  | n + 1, x10, x11, x12, y4_0, y4_1, y4_2, y5_0, y5_1, y5_2, H => bif decide (x12 < x11) then bif decide (0 ≤ (x12 : Int)) && decide ((x12 : Int) < x10.len) then (ldI .i64 H x10.blk (x10.off + (x12 : Int).toNat * 1)).bind fun n5 => bif decide (0 ≤ (n5 : Int)) && decide ((n5 : Int) < y5_1.len) then (H.sto y5_1.blk (y5_1.off + (n5 : Int).toNat * 1) [.int .i64 0]).bind fun H6 => (impl_without.l0 rec k n) x10 x11 (IntKind.i64.wrap (x12 + 1)) y4_0 y4_1 y4_2 y5_0 y5_1 y5_2 H6 else none else none else impl_without.j1 rec k y4_0 y4_1 y4_2 y5_0 y5_1 y5_2 H
noncomputable def impl_without.f (rec : Rec) (k : Nat) (a0_0 : Int) (a0_1 : Sl) (a0_2 : Sl) (a1 : Sl) (H : Hp) : An := (rec impl_copyPuzzle.id [.agg [.int .i64 a0_0, .sl 1 a0_1, .sl 3 a0_2]] H).bind fun r1 => bif r1.1.isAgg 3 then ((r1.1.cel 0).toI .i64).bind fun n2 => ((r1.1.cel 1).toS 1).bind fun s3 => ((r1.1.cel 2).toS 3).bind fun s4 => impl_without.l0 rec k k a1 (a1.len : Int) 0 0 Sl.none Sl.none n2 s3 s4 r1.2 else none
theorem impl_without.j1_eq (rec : Rec) (k : Nat) : ∀ y4_0 y4_1 y4_2 y5_0 y5_1 y5_2 H, impl_without.j1 rec k y4_0 y4_1 y4_2 y5_0 y5_1 y5_2 H = ex PP (orc impl_without.id) rec k (sub impl_without.body [1, 1, 1]) (St.of 22 [(4, .lp 4 0), (5, .lp 5 0)] [(4, [.int .i64 y4_0, .sl 1 y4_1, .sl 3 y4_2]), (5, [.int .i64 y5_0, .sl 1 y5_1, .sl 3 y5_2])]) H (kAt PP (orc impl_without.id) rec k impl_without.body [1, 1, 1] [] (K0 PP Go.Proofs.Try.f70)) := by
  intros y4_0 y4_1 y4_2 y5_0 y5_1 y5_2 H
  unfold impl_without.j1
  kernel_rfl
theorem impl_without.l0_eq (rec : Rec) (k : Nat) : ∀ n x10 x11 x12 y4_0 y4_1 y4_2 y5_0 y5_1 y5_2 H, impl_without.l0 rec k n x10 x11 x12 y4_0 y4_1 y4_2 y5_0 y5_1 y5_2 H = iter ((orc impl_without.id).at (lbody (sub impl_without.body [1, 1, 0, 1, 0]))) (ex PP (orc impl_without.id) rec k (lbody (sub impl_without.body [1, 1, 0, 1, 0]))) (kAt PP (orc impl_without.id) rec k impl_without.body [1, 1, 0, 1, 0] [] (K0 PP Go.Proofs.Try.f70)) n (St.of 22 [(4, .lp 4 0), (5, .lp 5 0), (10, .sl 1 x10), (11, .int .i64 x11), (12, .int .i64 x12)] [(4, [.int .i64 y4_0, .sl 1 y4_1, .sl 3 y4_2]), (5, [.int .i64 y5_0, .sl 1 y5_1, .sl 3 y5_2])]) H := by
  intro n
  induction n with
  | zero => intros; rfl
  | succ n ih =>
    intros x10 x11 x12 y4_0 y4_1 y4_2 y5_0 y5_1 y5_2 H
    simp only [impl_without.l0, impl_without.j1_eq rec k, ih, -eq_self]
    kernel_rfl
theorem impl_without.f_eq (rec : Rec) (k : Nat) : ∀ a0_0 a0_1 a0_2 a1 H, impl_without.f rec k a0_0 a0_1 a0_2 a1 H = ex PP (orc impl_without.id) rec k impl_without.body (St.of 22 [(0, .agg [.int .i64 a0_0, .sl 1 a0_1, .sl 3 a0_2]), (1, .sl 1 a1)] []) H (K0 PP Go.Proofs.Try.f70) := by
  intros a0_0 a0_1 a0_2 a1 H
  unfold impl_without.f
  try simp only [impl_without.l0_eq rec k, -eq_self]
  kernel_rfl
theorem impl_without.call (k : Nat) : ∀ a0_0 a0_1 a0_2 a1 H, callF PP orc (k + 1) impl_without.id [.agg [.int .i64 a0_0, .sl 1 a0_1, .sl 3 a0_2], .sl 1 a1] H = impl_without.f (callF PP orc k) k a0_0 a0_1 a0_2 a1 H := by
  intros a0_0 a0_1 a0_2 a1 H
  rw [callF_at (fn := Go.Proofs.Try.f70) (c := impl_without.body) Go.Proofs.Try.func70 (by kernel_rfl) (Nat.le_of_ble_eq_true (by kernel_rfl)), impl_without.f_eq]
  kernel_rfl
noncomputable def impl_IsRedundant.body : Code := (Go.Proofs.Try.f32).body.getD .skip
noncomputable def impl_IsRedundant.j1 (rec : Rec) (k : Nat) (x1 : Int) (y2_0 : Int) (y2_1 : Sl) (y2_2 : Sl) (H : Hp) : An := (rec impl_without.id [.agg [.int .i64 y2_0, .sl 1 y2_1, .sl 3 y2_2], .sl 1 (Sl.mk false H.length 0 1)] (H ++ [some (Blk.mk false [.int .i64 x1])])).bind fun r4 => bif r4.1.isAgg 3 then ((r4.1.cel 0).toI .i64).bind fun n5 => ((r4.1.cel 1).toS 1).bind fun s6 => ((r4.1.cel 2).toS 3).bind fun s7 => (rec impl_onlyOne.id [.agg [.int .i64 n5, .sl 1 s6, .sl 3 s7]] r4.2).bind fun r8 => r8.1.toB.bind fun b9 => some (.bool b9, r8.2) else none
noncomputable def impl_IsRedundant.j0 (rec : Rec) (k : Nat) (x1 : Int) (x26 : Bool) (y2_0 : Int) (y2_1 : Sl) (y2_2 : Sl) (H : Hp) : An := bif x26 then some (.bool false, H) else impl_IsRedundant.j1 rec k x1 y2_0 y2_1 y2_2 H
noncomputable def impl_IsRedundant.f (rec : Rec) (k : Nat) (a0_0 : Int) (a0_1 : Sl) (a0_2 : Sl) (a1 : Int) (H : Hp) : An := (rec impl_onlyOne.id [.agg [.int .i64 a0_0, .sl 1 a0_1, .sl 3 a0_2]] H).bind fun r1 => r1.1.toB.bind fun b2 => bif !b2 then impl_IsRedundant.j0 rec k a1 true a0_0 a0_1 a0_2 r1.2 else bif decide (a1 < 0) then impl_IsRedundant.j0 rec k a1 true a0_0 a0_1 a0_2 r1.2 else bif decide (a1 ≥ (a0_1.len : Int)) then impl_IsRedundant.j0 rec k a1 true a0_0 a0_1 a0_2 r1.2 else bif decide (0 ≤ (a1 : Int)) && decide ((a1 : Int) < a0_1.len) then (ldI .i64 r1.2 a0_1.blk (a0_1.off + (a1 : Int).toNat * 1)).bind fun n3 => impl_IsRedundant.j0 rec k a1 (n3 == 0) a0_0 a0_1 a0_2 r1.2 else none
theorem impl_IsRedundant.j1_eq (rec : Rec) (k : Nat) : ∀ x1 y2_0 y2_1 y2_2 H, impl_IsRedundant.j1 rec k x1 y2_0 y2_1 y2_2 H = ex PP (orc impl_IsRedundant.id) rec k (sub impl_IsRedundant.body [1, 1]) (St.of 32 [(1, .int .i64 x1), (2, .lp 2 0)] [(2, [.int .i64 y2_0, .sl 1 y2_1, .sl 3 y2_2])]) H (kAt PP (orc impl_IsRedundant.id) rec k impl_IsRedundant.body [1, 1] [] (K0 PP Go.Proofs.Try.f32)) := by
  intros x1 y2_0 y2_1 y2_2 H
  simp only [impl_IsRedundant.j1, -eq_self]
  kernel_rfl
theorem impl_IsRedundant.j0_eq (rec : Rec) (k : Nat) : ∀ x1 x26 y2_0 y2_1 y2_2 H, impl_IsRedundant.j0 rec k x1 x26 y2_0 y2_1 y2_2 H = ex PP (orc impl_IsRedundant.id) rec k (sub impl_IsRedundant.body [1, 0, 1]) (St.of 32 [(1, .int .i64 x1), (2, .lp 2 0), (26, .bool x26)] [(2, [.int .i64 y2_0, .sl 1 y2_1, .sl 3 y2_2])]) H (kAt PP (orc impl_IsRedundant.id) rec k impl_IsRedundant.body [1, 0, 1] [] (K0 PP Go.Proofs.Try.f32)) := by
  intros x1 x26 y2_0 y2_1 y2_2 H
  simp only [impl_IsRedundant.j0, impl_IsRedundant.j1, -eq_self]
  kernel_rfl
theorem impl_IsRedundant.f_eq (rec : Rec) (k : Nat) : ∀ a0_0 a0_1 a0_2 a1 H, impl_IsRedundant.f rec k a0_0 a0_1 a0_2 a1 H = ex PP (orc impl_IsRedundant.id) rec k impl_IsRedundant.body (St.of 32 [(0, .agg [.int .i64 a0_0, .sl 1 a0_1, .sl 3 a0_2]), (1, .int .i64 a1)] []) H (K0 PP Go.Proofs.Try.f32) := by
  intros a0_0 a0_1 a0_2 a1 H
  simp only [impl_IsRedundant.f, impl_IsRedundant.j0, impl_IsRedundant.j1, -eq_self]
  kernel_rfl
theorem impl_IsRedundant.call (k : Nat) : ∀ a0_0 a0_1 a0_2 a1 H, callF PP orc (k + 1) impl_IsRedundant.id [.agg [.int .i64 a0_0, .sl 1 a0_1, .sl 3 a0_2], .int .i64 a1] H = impl_IsRedundant.f (callF PP orc k) k a0_0 a0_1 a0_2 a1 H := by
  intros a0_0 a0_1 a0_2 a1 H
  rw [callF_at (fn := Go.Proofs.Try.f32) (c := impl_IsRedundant.body) Go.Proofs.Try.func32 (by kernel_rfl) (Nat.le_of_ble_eq_true (by kernel_rfl)), impl_IsRedundant.f_eq]
  kernel_rfl
noncomputable def impl_MakeMinimal.body : Code := (Go.Proofs.Try.f36).body.getD .skip
noncomputable def impl_MakeMinimal.j1 (rec : Rec) (k : Nat) (L0 : Int → Int → Int → Sl → Sl → Int → Sl → Sl → Hp → An) (x14 : Int) (x15 : Int) (y2_0 : Int) (y2_1 : Sl) (y2_2 : Sl) (y4_0 : Int) (y4_1 : Sl) (y4_2 : Sl) (H : Hp) : An := L0 x14 (IntKind.i64.wrap (x15 + 1)) y2_0 y2_1 y2_2 y4_0 y4_1 y4_2 H
noncomputable def impl_MakeMinimal.j2 (rec : Rec) (k : Nat) (y2_0 : Int) (y2_1 : Sl) (y2_2 : Sl) (y4_0 : Int) (y4_1 : Sl) (y4_2 : Sl) (H : Hp) : An := some (.tup [.agg [.int .i64 y4_0, .sl 1 y4_1, .sl 3 y4_2], .bool true], H)
noncomputable def impl_MakeMinimal.l0 (rec : Rec) (k : Nat) : Nat → Int → Int → Int → Sl → Sl → Int → Sl → Sl → Hp → An
  | 0, _, _, _, _, _, _, _, _, _ => none
  | n + 1, x14, x15, y2_0, y2_1, y2_2, y4_0, y4_1, y4_2, H => bif decide (x15 < x14) then (rec impl_IsRedundant.id [.agg [.int .i64 y4_0, .sl 1 y4_1, .sl 3 y4_2], .int .i64 x15] H).bind fun r7 => r7.1.toB.bind fun b8 => bif b8 then bif decide (0 ≤ (x15 : Int)) && decide ((x15 : Int) < y4_1.len) then (r7.2.sto y4_1.blk (y4_1.off + (x15 : Int).toNat * 1) [.int .i64 0]).bind fun H9 => impl_MakeMinimal.j1 rec k (impl_MakeMinimal.l0 rec k n) x14 x15 y2_0 y2_1 y2_2 y4_0 y4_1 y4_2 H9 else none else impl_MakeMinimal.j1 rec k (impl_MakeMinimal.l0 rec k n) x14 x15 y2_0 y2_1 y2_2 y4_0 y4_1 y4_2 r7.2 else impl_MakeMinimal.j2 rec k y2_0 y2_1 y2_2 y4_0 y4_1 y4_2 H
noncomputable def impl_MakeMinimal.f (rec : Rec) (k : Nat) (a0_0 : Int) (a0_1 : Sl) (a0_2 : Sl) (H : Hp) : An := (rec impl_onlyOne.id [.agg [.int .i64 a0_0, .sl 1 a0_1, .sl 3 a0_2]] H).bind fun r1 => r1.1.toB.bind fun b2 => bif !b2 then some (.tup [.agg [.int .i64 0, .sl 1 Sl.none, .sl 3 Sl.none], .bool false], r1.2) else (rec impl_copyPuzzle.id [.agg [.int .i64 a0_0, .sl 1 a0_1, .sl 3 a0_2]] r1.2).bind fun r3 => bif r3.1.isAgg 3 then ((r3.1.cel 0).toI .i64).bind fun n4 => ((r3.1.cel 1).toS 1).bind fun s5 => ((r3.1.cel 2).toS 3).bind fun s6 => impl_MakeMinimal.l0 rec k k (s5.len : Int) 0 0 Sl.none Sl.none n4 s5 s6 r3.2 else none
theorem impl_MakeMinimal.j1_eq (rec : Rec) (k : Nat) (n0 : Nat) (L0 : Int → Int → Int → Sl → Sl → Int → Sl → Sl → Hp → An) (hL0 : ∀ x14 x15 y2_0 y2_1 y2_2 y4_0 y4_1 y4_2 H, L0 x14 x15 y2_0 y2_1 y2_2 y4_0 y4_1 y4_2 H = iter ((orc impl_MakeMinimal.id).at (lbody (sub impl_MakeMinimal.body [1, 1, 1, 0, 1, 0]))) (ex PP (orc impl_MakeMinimal.id) rec k (lbody (sub impl_MakeMinimal.body [1, 1, 1, 0, 1, 0]))) (kAt PP (orc impl_MakeMinimal.id) rec k impl_MakeMinimal.body [1, 1, 1, 0, 1, 0] [] (K0 PP Go.Proofs.Try.f36)) n0 (St.of 27 [(2, .lp 2 0), (4, .lp 4 0), (14, .int .i64 x14), (15, .int .i64 x15)] [(2, [.int .i64 y2_0, .sl 1 y2_1, .sl 3 y2_2]), (4, [.int .i64 y4_0, .sl 1 y4_1, .sl 3 y4_2])]) H) : ∀ x14 x15 y2_0 y2_1 y2_2 y4_0 y4_1 y4_2 H, impl_MakeMinimal.j1 rec k L0 x14 x15 y2_0 y2_1 y2_2 y4_0 y4_1 y4_2 H = ex PP (orc impl_MakeMinimal.id) rec k (sub impl_MakeMinimal.body [1, 1, 1, 0, 1, 0, 0, 1, 1, 1]) (St.of 27 [(2, .lp 2 0), (4, .lp 4 0), (14, .int .i64 x14), (15, .int .i64 x15)] [(2, [.int .i64 y2_0, .sl 1 y2_1, .sl 3 y2_2]), (4, [.int .i64 y4_0, .sl 1 y4_1, .sl 3 y4_2])]) H (kAt PP (orc impl_MakeMinimal.id) rec k impl_MakeMinimal.body [1, 1, 1, 0, 1, 0, 0, 1, 1, 1] [n0] (K0 PP Go.Proofs.Try.f36)) := by
  intros x14 x15 y2_0 y2_1 y2_2 y4_0 y4_1 y4_2 H
  unfold impl_MakeMinimal.j1
  try simp only [hL0, -eq_self]
  kernel_rfl
theorem impl_MakeMinimal.j2_eq (rec : Rec) (k : Nat) : ∀ y2_0 y2_1 y2_2 y4_0 y4_1 y4_2 H, impl_MakeMinimal.j2 rec k y2_0 y2_1 y2_2 y4_0 y4_1 y4_2 H = ex PP (orc impl_MakeMinimal.id) rec k (sub impl_MakeMinimal.body [1, 1, 1, 1]) (St.of 27 [(2, .lp 2 0), (4, .lp 4 0)] [(2, [.int .i64 y2_0, .sl 1 y2_1, .sl 3 y2_2]), (4, [.int .i64 y4_0, .sl 1 y4_1, .sl 3 y4_2])]) H (kAt PP (orc impl_MakeMinimal.id) rec k impl_MakeMinimal.body [1, 1, 1, 1] [] (K0 PP Go.Proofs.Try.f36)) := by
  intros y2_0 y2_1 y2_2 y4_0 y4_1 y4_2 H
  unfold impl_MakeMinimal.j2
  kernel_rfl
theorem impl_MakeMinimal.l0_eq (rec : Rec) (k : Nat) : ∀ n x14 x15 y2_0 y2_1 y2_2 y4_0 y4_1 y4_2 H, impl_MakeMinimal.l0 rec k n x14 x15 y2_0 y2_1 y2_2 y4_0 y4_1 y4_2 H = iter ((orc impl_MakeMinimal.id).at (lbody (sub impl_MakeMinimal.body [1, 1, 1, 0, 1, 0]))) (ex PP (orc impl_MakeMinimal.id) rec k (lbody (sub impl_MakeMinimal.body [1, 1, 1, 0, 1, 0]))) (kAt PP (orc impl_MakeMinimal.id) rec k impl_MakeMinimal.body [1, 1, 1, 0, 1, 0] [] (K0 PP Go.Proofs.Try.f36)) n (St.of 27 [(2, .lp 2 0), (4, .lp 4 0), (14, .int .i64 x14), (15, .int .i64 x15)] [(2, [.int .i64 y2_0, .sl 1 y2_1, .sl 3 y2_2]), (4, [.int .i64 y4_0, .sl 1 y4_1, .sl 3 y4_2])]) H := by
  intro n
  induction n with
  | zero => intros; rfl
  | succ n ih =>
    intros x14 x15 y2_0 y2_1 y2_2 y4_0 y4_1 y4_2 H
    simp only [impl_MakeMinimal.l0, impl_MakeMinimal.j1_eq rec k n (impl_MakeMinimal.l0 rec k n) (fun x14 x15 y2_0 y2_1 y2_2 y4_0 y4_1 y4_2 H => ih x14 x15 y2_0 y2_1 y2_2 y4_0 y4_1 y4_2 H), impl_MakeMinimal.j2_eq rec k, ih, -eq_self]
    kernel_rfl
theorem impl_MakeMinimal.f_eq (rec : Rec) (k : Nat) : ∀ a0_0 a0_1 a0_2 H, impl_MakeMinimal.f rec k a0_0 a0_1 a0_2 H = ex PP (orc impl_MakeMinimal.id) rec k impl_MakeMinimal.body (St.of 27 [(0, .agg [.int .i64 a0_0, .sl 1 a0_1, .sl 3 a0_2])] []) H (K0 PP Go.Proofs.Try.f36) := by
  intros a0_0 a0_1 a0_2 H
  unfold impl_MakeMinimal.f
  try simp only [impl_MakeMinimal.l0_eq rec k, -eq_self]
  kernel_rfl
theorem impl_MakeMinimal.call (k : Nat) : ∀ a0_0 a0_1 a0_2 H, callF PP orc (k + 1) impl_MakeMinimal.id [.agg [.int .i64 a0_0, .sl 1 a0_1, .sl 3 a0_2]] H = impl_MakeMinimal.f (callF PP orc k) k a0_0 a0_1 a0_2 H := by
  intros a0_0 a0_1 a0_2 H
  rw [callF_at (fn := Go.Proofs.Try.f36) (c := impl_MakeMinimal.body) Go.Proofs.Try.func36 (by kernel_rfl) (Nat.le_of_ble_eq_true (by kernel_rfl)), impl_MakeMinimal.f_eq]
  kernel_rfl
end Go.Proofs.Ytjikkamhljbipaa.Rp
/- Copies of a puzzle; how many solutions; which cells are not needed. No conditions. -/
set_option linter.unusedVariables false
set_option linter.unusedSimpArgs false
namespace Go.Proofs.Ytjikkamhljbipaa.Rp
open Go Go.RowKit Go.Proofs.Ytjikkamhljbipaa.Ab

def countV (n : Int) (given : List Int) (vs : List V) (m : Int) : Int := if puzzleV n given vs = true ∧ 1 ≤ m ∧ m ≤ 600 then (((allSols n given vs).take m.toNat).length : Int) else -1
theorem implCount_ok {k : Nat} (hk : 2000510 ≤ k) {H : Hp} {n : Int} {gs s : Sl} {given : List Int} {rs : List R} (hz : PuzAt H n gs s given rs) (hnil : gs.nil = false) (m : Int) :
    ∃ H', callF PP orc k impl_CountSolutions.id [.agg [.int .i64 n, .sl 1 gs, .sl 3 s], .int .i64 m] H = some (.int .i64 (countV n given (rs.map R.val) m), H') ∧ H <+: H' := by
  obtain ⟨k, rfl⟩ : ∃ q, k = q + 1 := ⟨k - 1, by omega⟩
  rw [impl_CountSolutions.call]
  have h1 := implPuzzleValid_ok (show 2000003 ≤ k by omega) hz.n4 hz.rg hz.gl hz.rr hz.rl hz.rc
  rw [puzzle_map] at h1
  unfold countV
  cases c1 : puzzleV n given (rs.map R.val) with
  | false =>
    rw [c1] at h1
    rw [iN (by simp)]
    exact ⟨H, by simp only [impl_CountSolutions.f, impl_CountSolutions.j0, dt, df, bt, bf, nt, nf, Bool.and_self, Bool.not_true, Bool.not_false, cond_true, cond_false, Int.toNat_natCast, Int.toNat_zero, Int.toNat_one, Option.bind_some, wr, AV.toB, AV.toI, AV.toS, if_true, h1], (List.prefix_refl _)⟩
  | true =>
    rw [c1] at h1
    by_cases c2 : m < 1
    · rw [iN (by omega)]
      exact ⟨H, by simp (disch := omega) only [impl_CountSolutions.f, impl_CountSolutions.j0, dt, df, bt, bf, nt, nf, Bool.and_self, Bool.not_true, Bool.not_false, cond_true, cond_false, Int.toNat_natCast, Int.toNat_zero, Int.toNat_one, Option.bind_some, wr, AV.toB, AV.toI, AV.toS, if_true, h1], (List.prefix_refl _)⟩
    · by_cases c3 : m > 600
      · rw [iN (by omega)]
        exact ⟨H, by simp (disch := omega) only [impl_CountSolutions.f, impl_CountSolutions.j0, dt, df, bt, bf, nt, nf, Bool.and_self, Bool.not_true, Bool.not_false, cond_true, cond_false, Int.toNat_natCast, Int.toNat_zero, Int.toNat_one, Option.bind_some, wr, AV.toB, AV.toI, AV.toS, if_true, h1], (List.prefix_refl _)⟩
      · obtain ⟨q, rfl⟩ : ∃ q : Nat, m = q := ⟨m.toNat, by omega⟩
        rw [ip ⟨rfl, by omega, by omega⟩]
        obtain ⟨t, H', a1, a2, a3⟩ := firstSolutions_ok (show 2000500 ≤ k by omega) hz hnil (most := q) (by omega) (by omega)
        have hl := a3.len
        refine ⟨H', ?_, a2⟩
        simp (disch := omega) only [impl_CountSolutions.f, impl_CountSolutions.j0, impl_CountSolutions.j1, dt, df, bt, bf, nt, nf, Bool.and_self, Bool.not_true, Bool.not_false, cond_true, cond_false, Int.toNat_natCast, Int.toNat_zero, Int.toNat_one, Option.bind_some, wr, AV.toB, AV.toI, AV.toS, if_true, h1, a1, hl, Int.toNat_natCast]
theorem onlyOne_ok {k : Nat} (hk : 2000511 ≤ k) {H : Hp} {n : Int} {gs s : Sl} {given : List Int} {rs : List R} (hz : PuzAt H n gs s given rs) (hnil : gs.nil = false) :
    ∃ H', callF PP orc k impl_onlyOne.id [.agg [.int .i64 n, .sl 1 gs, .sl 3 s]] H = some (.bool (minimalOk n given (rs.map R.val)), H') ∧ H <+: H' := by
  obtain ⟨k, rfl⟩ : ∃ q, k = q + 1 := ⟨k - 1, by omega⟩
  rw [impl_onlyOne.call]
  obtain ⟨H1, a1, a2⟩ := implCount_ok (show 2000510 ≤ k by omega) hz hnil 2
  have e : (countV n given (rs.map R.val) 2 == 1) = minimalOk n given (rs.map R.val) := by
    unfold countV minimalOk oneV
    cases c1 : puzzleV n given (rs.map R.val) with
    | false => rfl
    | true =>
      rw [ip ⟨rfl, by omega, by omega⟩, Bool.eq_iff_iff]
      simp; omega
  exact ⟨H1, by simp only [impl_onlyOne.f, dt, df, bt, bf, nt, nf, Bool.and_self, Bool.not_true, Bool.not_false, cond_true, cond_false, Int.toNat_natCast, Int.toNat_zero, Int.toNat_one, Option.bind_some, wr, AV.toB, AV.toI, AV.toS, if_true, a1, e], a2⟩
theorem implSolveFirst_ok {k : Nat} (hk : 2000510 ≤ k) {H : Hp} {n : Int} {gs s : Sl} {given : List Int} {rs : List R} (hz : PuzAt H n gs s given rs) (hnil : gs.nil = false) :
    ∃ t H', H <+: H' ∧ ((firstV n given (rs.map R.val) = none ∧ callF PP orc k impl_SolveFirst.id [.agg [.int .i64 n, .sl 1 gs, .sl 3 s]] H = some (.tup [.sl 1 t, .bool false], H') ∧ Reads .i64 H' t []) ∨
      (∃ x, firstV n given (rs.map R.val) = some x ∧ callF PP orc k impl_SolveFirst.id [.agg [.int .i64 n, .sl 1 gs, .sl 3 s]] H = some (.tup [.sl 1 t, .bool true], H') ∧ Reads .i64 H' t x)) := by
  obtain ⟨k, rfl⟩ : ∃ q, k = q + 1 := ⟨k - 1, by omega⟩
  rw [impl_SolveFirst.call]
  have h1 := implPuzzleValid_ok (show 2000003 ≤ k by omega) hz.n4 hz.rg hz.gl hz.rr hz.rl hz.rc
  rw [puzzle_map] at h1
  cases c1 : puzzleV n given (rs.map R.val) with
  | false =>
    rw [c1] at h1
    have e : firstV n given (rs.map R.val) = none := by
      unfold firstV allSols puzzleFitsV; rw [c1]; rfl
    exact ⟨Sl.none, H, (List.prefix_refl _), .inl ⟨e, by simp only [impl_SolveFirst.f, dt, df, bt, bf, nt, nf, Bool.and_self, Bool.not_true, Bool.not_false, cond_true, cond_false, Int.toNat_natCast, Int.toNat_zero, Int.toNat_one, Option.bind_some, wr, AV.toB, AV.toI, AV.toS, if_true, h1], reads_nil rfl⟩⟩
  | true =>
    rw [c1] at h1
    obtain ⟨t, H1, a1, a2, a3⟩ := firstSolutions_ok (show 2000500 ≤ k by omega) hz hnil (most := 1) (by omega) (by omega)
    have a1' : callF PP orc k impl_firstSolutions.id [.agg [.int .i64 n, .sl 1 gs, .sl 3 s], .sl 1 gs, .int .i64 1] H = some (.sl 1 t, H1) := a1
    have hl := a3.len
    unfold firstV
    generalize allSols n given (rs.map R.val) = L at *
    cases L with
    | nil =>
      simp at hl
      refine ⟨Sl.none, H1, a2, .inl ⟨rfl, ?_, reads_nil rfl⟩⟩
      simp (disch := omega) only [impl_SolveFirst.f, dt, df, bt, bf, nt, nf, Bool.and_self, Bool.not_true, Bool.not_false, cond_true, cond_false, Int.toNat_natCast, Int.toNat_zero, Int.toNat_one, Option.bind_some, wr, AV.toB, AV.toI, AV.toS, if_true, h1, a1']
    | cons x L =>
      simp at hl
      obtain ⟨u, b1, b2⟩ := readsL0 a3 (by simp)
      refine ⟨u, H1, a2, .inr ⟨x, rfl, ?_, own_reads b2⟩⟩
      simp (disch := omega) only [impl_SolveFirst.f, dt, df, bt, bf, nt, nf, Bool.and_self, Bool.not_true, Bool.not_false, cond_true, cond_false, Int.toNat_natCast, Int.toNat_zero, Int.toNat_one, Option.bind_some, wr, AV.toB, AV.toI, AV.toS, if_true, h1, a1', b1]

/-- A list of rules that was written, with blocks of its own, or none. -/
structure WN (H0 H : Hp) (s : Sl) (qs : List R) : Prop where
  sh : (qs = [] ∧ s = Sl.none) ∨ Own 3 H0 H s (qs.flatMap R.av)
  rd : ∀ q ∈ qs, Reads .i64 H q.sl q.cells
  cb : ∀ q ∈ qs, q.cells ≠ [] → H0.length ≤ q.sl.blk ∧ q.sl.blk < H.length ∧ q.sl.blk ≠ s.blk
  cn : ∀ q ∈ qs, q.sl.nil = false ∨ q.cells = []
theorem reads_or {H H' : Hp} {s : Sl} {l : List Int} {b : Nat} (h : Reads .i64 H s l) (g : But b H H') (hb : l ≠ [] → s.blk ≠ b) : Reads .i64 H' s l := by
  cases l with
  | nil => exact reads_nil h.len
  | cons x l => exact g.reads (hb (by simp)) h
theorem WN.pf {H0 H H' : Hp} {s : Sl} {qs : List R} (h : WN H0 H s qs) (g : H <+: H') : WN H0 H' s qs :=
  ⟨h.sh.imp id fun ho => own_pf ho g, fun q hq => pf_reads g (h.rd q hq), fun q hq hc => by
    obtain ⟨a, b, c⟩ := h.cb q hq hc
    exact ⟨a, Nat.lt_of_lt_of_le b g.length_le, c⟩, h.cn⟩
theorem WN.reads {H0 H : Hp} {s : Sl} {qs : List R} (h : WN H0 H s qs) : ReadsR H s qs := by
  rcases h.sh with ⟨e1, e2⟩ | ho
  · subst e1 e2
    exact ⟨rfl, fun i hi => absurd hi (Nat.not_lt_zero _), fun i hi => absurd hi (Nat.not_lt_zero _), fun i hi => absurd hi (Nat.not_lt_zero _), fun i hi => absurd hi (Nat.not_lt_zero _)⟩
  · exact own_readsR ho fun i hi => h.rd _ (List.getElem_mem hi)
theorem WN.wr {H0 H H' : Hp} {s : Sl} {qs : List R} {b : Nat} (h : WN H0 H s qs) (g : But b H H') (hl : H'.length = H.length) (hb : b < H0.length) : WN H0 H' s qs :=
  ⟨h.sh.imp id fun ho => g.own (by have := ho.blk; omega) ho, fun q hq => reads_or (h.rd q hq) g fun hc => by have := (h.cb q hq hc).1; omega, fun q hq hc => by
    obtain ⟨a, b, c⟩ := h.cb q hq hc
    exact ⟨a, by omega, c⟩, h.cn⟩
theorem wn_app {H0 H : Hp} {s : Sl} {qs : List R} (h : WN H0 H s qs) (g : H0 <+: H) (hl : qs.length ≤ 1000000) (r : R) (hr : Reads .i64 H r.sl r.cells) (hb : r.cells ≠ [] → H0.length ≤ r.sl.blk ∧ r.sl.blk < H.length ∧ (qs ≠ [] → r.sl.blk ≠ s.blk)) (hn : r.sl.nil = false ∨ r.cells = []) :
    ∃ t' H', H.app 3 s 1 r.av = some (t', H') ∧ H0 <+: H' ∧ WN H0 H' t' (qs ++ [r]) := by
  have hlow := g.length_le
  rcases h.sh with ⟨e1, e2⟩ | ho
  · subst e1 e2
    refine ⟨Sl.mk false H.length 0 1, H ++ [some ⟨false, r.av⟩], ?_, g.trans (List.prefix_append _ _), .inr ?_, ?_, ?_, ?_⟩
    · unfold Hp.app
      rw [if_pos (by refine ⟨?_, ?_, ?_, ?_⟩ <;> simp [Sl.none, R.av]), if_neg (by omega), if_pos (show Sl.none.nil = true from rfl)]
    · refine ⟨rfl, rfl, hlow, by simp, ?_⟩
      simp [R.av]
    · intro q hq
      simp at hq; subst hq
      exact pf_reads (List.prefix_append _ _) hr
    · intro q hq hc
      simp at hq; subst hq
      obtain ⟨a, b, _⟩ := hb hc
      exact ⟨a, by simp; omega, by simp only; omega⟩
    · intro q hq
      simp at hq; subst hq
      exact hn
  · have hlen := own_len3 ho
    obtain ⟨H', a1, a2, a3, a4, a5⟩ := own_app ho g 1 r.av (by omega) (by omega) (by omega) (by omega) rfl
    refine ⟨_, H', a1, a2, .inr (by simpa using a3), ?_, ?_, ?_⟩
    · intro q hq
      rcases List.mem_append.1 hq with hq | hq
      · exact reads_or (h.rd q hq) a4 fun hc => (h.cb q hq hc).2.2
      · simp at hq; subst hq
        by_cases e : qs = []
        · subst e
          have hb0 : s.len = 0 := hlen
          by_cases e2 : q.sl.blk = s.blk
          · cases hc : q.cells with
            | nil => rw [hc] at hr; exact reads_nil hr.len
            | cons x l =>
              exfalso
              have := hr.cell 0 (by rw [hc]; simp)
              unfold Hp.cell at this
              rw [e2, ho.get] at this
              simp at this
          · exact a4.reads e2 hr
        · exact reads_or hr a4 fun hc => (hb hc).2.2 e
    · intro q hq hc
      rcases List.mem_append.1 hq with hq | hq
      · obtain ⟨a, b, c⟩ := h.cb q hq hc
        exact ⟨a, by omega, by simp only; omega⟩
      · simp at hq; subst hq
        obtain ⟨a, b, _⟩ := hb hc
        exact ⟨a, by omega, by simp only; omega⟩
    · intro q hq
      rcases List.mem_append.1 hq with hq | hq
      · exact h.cn q hq
      · simp at hq; subst hq; exact hn

theorem Clone_any {k : Nat} (hk : 1 ≤ k) {H : Hp} {s : Sl} {l : List Int} (hs : Reads .i64 H s l) (hn : s.nil = false ∨ l = []) (hl : l.length ≤ 1000) :
    ∃ t H', callF PP orc k slices_Clone_int.id [.sl 1 s] H = some (.sl 1 t, H') ∧ H <+: H' ∧ Reads .i64 H' t l ∧ (l ≠ [] → t.blk = H.length ∧ H.length < H'.length) ∧ (t.nil = false ∨ l = []) := by
  cases c : s.nil with
  | false =>
    exact ⟨_, _, Clone_own hk hs c hl, List.prefix_append _ _, own_reads (own_new 1 H _ _ (by simp)), fun _ => ⟨rfl, by simp⟩, .inl rfl⟩
  | true =>
    have e : l = [] := by rcases hn with h | h; rw [c] at h; cases h; exact h
    subst e
    refine ⟨Sl.none, H, ?_, (List.prefix_refl _), reads_nil rfl, fun h => absurd rfl h, .inr rfl⟩
    obtain ⟨k, rfl⟩ : ∃ q, k = q + 1 := ⟨k - 1, by omega⟩
    rw [slices_Clone_int.call]
    simp only [slices_Clone_int.f, c, cond_true]
theorem copy_l0 {k : Nat} (hk : 1 ≤ k) {H0 : Hp} {s : Sl} {rs : List R} (hs : ReadsR H0 s rs) (hl : rs.length ≤ 1000) (hc : ∀ r ∈ rs, r.cells.length ≤ 1000) (hcn : ∀ r ∈ rs, r.sl.nil = false ∨ r.cells = []) {n y0 : Int} {y1 y2 gt : Sl} :
    ∀ (j i fuel : Nat) (H : Hp) (out : Sl) (qs : List R), i + j = rs.length → j < fuel → H0 <+: H → WN H0 H out qs → qs.map R.val = (rs.take i).map R.val →
      ∃ out' qs' H', impl_copyPuzzle.l0 (callF PP orc k) k fuel s (rs.length : Int) i y0 y1 y2 n gt out H = some (.agg [.int .i64 n, .sl 1 gt, .sl 3 out'], H') ∧ H0 <+: H' ∧ WN H0 H' out' qs' ∧ qs'.map R.val = rs.map R.val := by
  have hsl := hs.len
  intro j
  induction j with
  | zero =>
    intro i fuel H out qs hi hf hp ho hv
    obtain ⟨fuel, rfl⟩ : ∃ q, fuel = q + 1 := ⟨fuel - 1, by omega⟩
    refine ⟨out, qs, H, ?_, hp, ho, by rw [hv, List.take_of_length_le (by omega)]⟩
    simp (disch := omega) only [impl_copyPuzzle.l0, impl_copyPuzzle.j1, dt, df, bt, bf, nt, nf, Bool.and_self, Bool.not_true, Bool.not_false, cond_true, cond_false, Int.toNat_natCast, Int.toNat_zero, Int.toNat_one, Option.bind_some, wr, AV.toB, AV.toI, AV.toS, if_true]
  | succ j ih =>
    intro i fuel H out qs hi hf hp ho hv
    obtain ⟨fuel, rfl⟩ : ∃ q, fuel = q + 1 := ⟨fuel - 1, by omega⟩
    have h2 : i < rs.length := by omega
    obtain ⟨l0, l1, l2⟩ := rules_at1 (pf_readsR hp hs) i h2
    have hmem := List.getElem_mem h2
    have hql : qs.length = i := by have := congrArg List.length hv; simp at this; omega
    obtain ⟨t, H1, a1, a2, a3, a4, a5⟩ := Clone_any hk ((pf_readsR hp hs).cs i h2) (hcn _ hmem) (hc _ hmem)
    have hle := hp.length_le
    have hout : qs ≠ [] → out.blk < H.length := fun hq => by
      rcases ho.sh with ⟨e, _⟩ | h
      · exact absurd e hq
      · exact own_lt h
    obtain ⟨out1, H2, b1, b2, b3⟩ := wn_app (ho.pf a2) (hp.trans a2) (by omega) { kind := rs[i].kind, sl := t, cells := rs[i].cells, value := rs[i].value } a3 (fun hcc => by
      obtain ⟨q1, q2⟩ := a4 hcc
      exact ⟨by simp only; omega, by simp only; omega, fun hq => by have := hout hq; simp only; omega⟩) a5
    obtain ⟨out', qs', H', d1, d2, d3, d4⟩ := ih (i + 1) fuel H2 out1 _ (by omega) (by omega) b2 b3 (by
      rw [List.take_succ_eq_append_getElem h2, List.map_append, List.map_append, hv]; rfl)
    push_cast at d1
    refine ⟨out', qs', H', ?_, d2, d3, d4⟩
    simp only [R.av] at b1
    simp (disch := omega) only [impl_copyPuzzle.l0, dt, df, bt, bf, nt, nf, Bool.and_self, Bool.not_true, Bool.not_false, cond_true, cond_false, Int.toNat_natCast, Int.toNat_zero, Int.toNat_one, Option.bind_some, wr, AV.toB, AV.toI, AV.toS, if_true, l0, l1, l2, a1, b1, d1]
theorem copyPuzzle_ok {k : Nat} (hk : 2000002 ≤ k) {H : Hp} {n : Int} {gs s : Sl} {given : List Int} {rs : List R} (hz : PuzAt H n gs s given rs) (hnil : gs.nil = false) (hcn : ∀ r ∈ rs, r.sl.nil = false ∨ r.cells = []) :
    ∃ st qs H', callF PP orc k impl_copyPuzzle.id [.agg [.int .i64 n, .sl 1 gs, .sl 3 s]] H = some (.agg [.int .i64 n, .sl 1 (Sl.mk false H.length 0 given.length), .sl 3 st], H') ∧ H <+: H' ∧ Own 1 H H' (Sl.mk false H.length 0 given.length) (given.map (.int .i64)) ∧ WN (H ++ [some (Blk.mk false (given.map (.int .i64)))]) H' st qs ∧ qs.map R.val = rs.map R.val := by
  obtain ⟨k, rfl⟩ : ∃ q, k = q + 1 := ⟨k - 1, by omega⟩
  rw [impl_copyPuzzle.call]
  have hgl := hz.gl
  have c1 := Clone_own (show 1 ≤ k by omega) hz.rg hnil (by omega)
  have g1 : H <+: H ++ [some (Blk.mk false (given.map (.int .i64)))] := List.prefix_append _ _
  have hnew := own_new 1 H (given.map (.int .i64)) given.length (by simp)
  have hsl := hz.rr.len
  have hzl := hz.rl
  obtain ⟨st, qs, H', a1, a2, a3, a4⟩ := copy_l0 (show 1 ≤ k by omega) (pf_readsR g1 hz.rr) hz.rl hz.rc hcn (n := n) (y0 := 0) (y1 := Sl.none) (y2 := Sl.none) (gt := Sl.mk false H.length 0 given.length) rs.length 0 k (H ++ [some (Blk.mk false (given.map (.int .i64)))]) Sl.none [] (by omega) (by omega) (List.prefix_refl _) ⟨.inl ⟨rfl, rfl⟩, (fun q hq => by cases hq), (fun q hq => by cases hq), (fun q hq => by cases hq)⟩ (by simp)
  refine ⟨st, qs, H', ?_, g1.trans a2, own_pf hnew a2, a3, a4⟩
  have a1' := a1
  simp only [Int.natCast_zero] at a1'
  simp only [impl_copyPuzzle.f, dt, df, bt, bf, nt, nf, Bool.and_self, Bool.not_true, Bool.not_false, cond_true, cond_false, Int.toNat_natCast, Int.toNat_zero, Int.toNat_one, Option.bind_some, wr, AV.toB, AV.toI, AV.toS, if_true, c1, hsl, a1']
def clear (cs : List Int) (g : List Int) : List Int := cs.foldl (fun g c => g.set c.toNat 0) g
theorem clear_len : ∀ (cs g : List Int), (clear cs g).length = g.length
  | [], g => rfl
  | c :: cs, g => by
    show (clear cs (g.set c.toNat 0)).length = _
    rw [clear_len cs]; simp
theorem without_l0 (rec : Rec) (k : Nat) {H0 : Hp} {cs gt st : Sl} {c : List Int} {n y0 : Int} {y1 y2 : Sl} (hc : ∀ x ∈ c, 0 ≤ x ∧ x < (gt.len : Int)) (hcl : c.length ≤ 1000) :
    ∀ (j i fuel : Nat) (H : Hp) (g : List Int), i + j = c.length → j < fuel → H0 <+: H → Own 1 H0 H gt (g.map (.int .i64)) → cs.blk < H0.length → Reads .i64 H cs c →
      ∃ H', impl_without.l0 rec k fuel cs (c.length : Int) i y0 y1 y2 n gt st H = some (.agg [.int .i64 n, .sl 1 gt, .sl 3 st], H') ∧ H0 <+: H' ∧ Own 1 H0 H' gt ((clear (c.drop i) g).map (.int .i64)) ∧ But gt.blk H H' ∧ H'.length = H.length := by
  intro j
  induction j with
  | zero =>
    intro i fuel H g hi hf hp ho hcs hr
    obtain ⟨fuel, rfl⟩ : ∃ q, fuel = q + 1 := ⟨fuel - 1, by omega⟩
    have hlen := hr.len
    rw [show c.drop i = [] from List.drop_eq_nil_of_le (by omega)]
    refine ⟨H, ?_, hp, ho, fun e x _ hx => hx, rfl⟩
    simp (disch := omega) only [impl_without.l0, impl_without.j1, dt, df, bt, bf, nt, nf, Bool.and_self, Bool.not_true, Bool.not_false, cond_true, cond_false, Int.toNat_natCast, Int.toNat_zero, Int.toNat_one, Option.bind_some, wr, AV.toB, AV.toI, AV.toS, if_true]
  | succ j ih =>
    intro i fuel H g hi hf hp ho hcs hr
    obtain ⟨fuel, rfl⟩ : ∃ q, fuel = q + 1 := ⟨fuel - 1, by omega⟩
    have hlen := hr.len
    have hi2 : i < c.length := by omega
    have hgt := (own_reads ho).len
    have hblk := ho.blk
    have hx := hc _ (mem_getD hi2)
    obtain ⟨H1, a1, a2, a3, a4⟩ := own_set1 ho hp (c.getD i 0).toNat (by omega) 0
    have hl1 : H1.length = H.length := by
      have := own_sto ho hp (c.getD i 0).toNat [.int .i64 0] (by rw [List.length_map]; show _ + 1 ≤ _; omega)
      obtain ⟨H2, q1, q2, q3, q4, q5⟩ := this
      rw [Nat.mul_one] at a1
      rw [a1] at q1
      simp only [Option.some.injEq] at q1
      rw [q1]; exact q5
    obtain ⟨H', d1, d2, d3, d4, d5⟩ := ih (i + 1) fuel H1 (g.set (c.getD i 0).toNat 0) (by omega) (by omega) a2 a3 hcs (a4.but.reads (by omega) hr)
    rw [List.drop_eq_getElem_cons hi2]
    have e : c[i] = c.getD i 0 := by rw [List.getD_eq_getElem?_getD, List.getElem?_eq_getElem hi2]; rfl
    push_cast at d1
    refine ⟨H', ?_, d2, by rw [e]; exact d3, fun e x h1 h2 => d4 e x h1 (a4.but e x h1 h2), by omega⟩
    simp (disch := omega) only [impl_without.l0, dt, df, bt, bf, nt, nf, Bool.and_self, Bool.not_true, Bool.not_false, cond_true, cond_false, Int.toNat_natCast, Int.toNat_zero, Int.toNat_one, Option.bind_some, wr, AV.toB, AV.toI, AV.toS, if_true, rdn hr, a1, d1]
theorem without_ok {k : Nat} (hk : 2000003 ≤ k) {H : Hp} {n : Int} {gs s cs : Sl} {given c : List Int} {rs : List R} (hz : PuzAt H n gs s given rs) (hnil : gs.nil = false) (hcn : ∀ r ∈ rs, r.sl.nil = false ∨ r.cells = []) (hr : Reads .i64 H cs c) (hcs : cs.blk < H.length) (hc : ∀ x ∈ c, 0 ≤ x ∧ x < (given.length : Int)) (hcl : c.length ≤ 1000) :
    ∃ gt st qs H', callF PP orc k impl_without.id [.agg [.int .i64 n, .sl 1 gs, .sl 3 s], .sl 1 cs] H = some (.agg [.int .i64 n, .sl 1 gt, .sl 3 st], H') ∧ H <+: H' ∧ PuzAt H' n gt st (clear c given) qs ∧ qs.map R.val = rs.map R.val ∧ gt.nil = false ∧ (∀ r ∈ qs, r.sl.nil = false ∨ r.cells = []) := by
  obtain ⟨k, rfl⟩ : ∃ q, k = q + 1 := ⟨k - 1, by omega⟩
  rw [impl_without.call]
  obtain ⟨st, qs, H1, a1, a2, a3, a4, a5⟩ := copyPuzzle_ok (show 2000002 ≤ k by omega) hz hnil hcn
  have hrl := hr.len
  obtain ⟨H', d1, d2, d3, d4, d5⟩ := without_l0 (callF PP orc k) k (H0 := H) (cs := cs) (gt := Sl.mk false H.length 0 given.length) (st := st) (n := n) (y0 := 0) (y1 := Sl.none) (y2 := Sl.none) hc hcl c.length 0 k H1 given (by omega) (by omega) a2 a3 hcs (pf_reads a2 hr)
  have hw := a4.wr d4 d5 (by simp)
  have hql : qs.length = rs.length := by have := congrArg List.length a5; simpa using this
  refine ⟨_, st, qs, H', ?_, d2, ⟨own_reads (by simpa using d3), hw.reads, hz.n4, by rw [clear_len]; exact hz.gl, by rw [hql]; exact hz.rl, val_cells a5 1000 hz.rc⟩, a5, rfl, hw.cn⟩
  have d1' := d1
  simp only [Int.natCast_zero] at d1'
  simp only [impl_without.f, dt, df, bt, bf, nt, nf, Bool.and_self, Bool.not_true, Bool.not_false, cond_true, cond_false, Int.toNat_natCast, Int.toNat_zero, Int.toNat_one, Option.bind_some, wr, AV.toB, AV.toI, AV.toS, if_true, a1, AV.isAgg, AV.cel, List.length_cons, List.length_nil, List.getD_cons_zero, List.getD_cons_succ, hrl, d1']
  rfl
theorem puzzle_set {n : Int} {given : List Int} {vs : List V} (h : puzzleV n given vs = true) (c : Nat) : puzzleV n (given.set c 0) vs = true := by
  unfold puzzleV at h ⊢
  simp only [Bool.and_eq_true] at h ⊢
  have hn := ((gridOk_iff given n).1 h.1).1
  exact ⟨grid_set h.1 c 0 ⟨by omega, by omega⟩, h.2⟩
theorem implIsRedundant_ok {k : Nat} (hk : 2000520 ≤ k) {H : Hp} {n : Int} {gs s : Sl} {given : List Int} {rs : List R} (hz : PuzAt H n gs s given rs) (hnil : gs.nil = false) (hcn : ∀ r ∈ rs, r.sl.nil = false ∨ r.cells = []) (c : Int) :
    ∃ H', callF PP orc k impl_IsRedundant.id [.agg [.int .i64 n, .sl 1 gs, .sl 3 s], .int .i64 c] H = some (.bool (redundantV n given (rs.map R.val) c), H') ∧ H <+: H' := by
  obtain ⟨k, rfl⟩ : ∃ q, k = q + 1 := ⟨k - 1, by omega⟩
  rw [impl_IsRedundant.call]
  obtain ⟨H1, a1, a2⟩ := onlyOne_ok (show 2000511 ≤ k by omega) hz hnil
  have hgl := hz.rg.len
  have hgl2 := hz.gl
  unfold redundantV
  unfold minimalOk at a1
  cases c1 : puzzleV n given (rs.map R.val) with
  | false =>
    rw [c1] at a1
    exact ⟨H1, by simp only [impl_IsRedundant.f, impl_IsRedundant.j0, dt, df, bt, bf, nt, nf, Bool.and_self, Bool.not_true, Bool.not_false, cond_true, cond_false, Int.toNat_natCast, Int.toNat_zero, Int.toNat_one, Option.bind_some, wr, AV.toB, AV.toI, AV.toS, if_true, a1, Bool.false_and], a2⟩
  | true =>
    rw [c1] at a1
    cases c2 : oneV n given (rs.map R.val) with
    | false =>
      rw [c2] at a1
      exact ⟨H1, by simp only [impl_IsRedundant.f, impl_IsRedundant.j0, dt, df, bt, bf, nt, nf, Bool.and_self, Bool.not_true, Bool.not_false, cond_true, cond_false, Int.toNat_natCast, Int.toNat_zero, Int.toNat_one, Option.bind_some, wr, AV.toB, AV.toI, AV.toS, if_true, a1, Bool.false_and, Bool.and_false], a2⟩
    | true =>
      rw [c2] at a1
      by_cases c3 : 0 ≤ c ∧ c ≤ (given.length : Int) - 1
      · have hrd := pf_reads a2 hz.rg
        have hv := ((gridOk_iff given n).1 (puzzleV_iff c1).1).2.2 _ (mem_getD (show c.toNat < given.length by omega))
        by_cases c4 : given.getD c.toNat 0 > 0
        · have g3 : H1 <+: H1 ++ [some (Blk.mk false [.int .i64 c])] := List.prefix_append _ _
          have hcr : Reads .i64 (H1 ++ [some (Blk.mk false [.int .i64 c])]) (Sl.mk false H1.length 0 1) [c] := own_reads (own_new 1 H1 (([c] : List Int).map (.int .i64)) 1 rfl)
          obtain ⟨gt, st, qs, H2, b1, b2, b3, b4, b5, b6⟩ := without_ok (show 2000003 ≤ k by omega) (hz.pf (a2.trans g3)) hnil hcn hcr (by simp) (fun x hx => by simp at hx; subst hx; omega) (by simp)
          obtain ⟨H3, d1, d2⟩ := onlyOne_ok (show 2000511 ≤ k by omega) b3 b5
          have e : minimalOk n (clear [c] given) (qs.map R.val) = oneV n (given.set c.toNat 0) (rs.map R.val) := by
            unfold minimalOk
            rw [b4]
            show (puzzleV n (given.set c.toNat 0) (rs.map R.val) && _) = _
            rw [puzzle_set c1, Bool.true_and]; rfl
          rw [e] at d1
          refine ⟨H3, ?_, (a2.trans g3).trans (b2.trans d2)⟩
          simp (disch := omega) only [impl_IsRedundant.f, impl_IsRedundant.j0, impl_IsRedundant.j1, dt, df, bt, bf, nt, nf, Bool.and_self, Bool.not_true, Bool.not_false, cond_true, cond_false, Int.toNat_natCast, Int.toNat_zero, Int.toNat_one, Option.bind_some, wr, AV.toB, AV.toI, AV.toS, if_true, a1, hgl, rdn hrd, b1, d1, AV.isAgg, AV.cel, List.length_cons, List.length_nil, List.getD_cons_zero, List.getD_cons_succ, Bool.true_and]
          rfl
        · refine ⟨H1, ?_, a2⟩
          simp (disch := omega) only [impl_IsRedundant.f, impl_IsRedundant.j0, dt, df, bt, bf, nt, nf, Bool.and_self, Bool.not_true, Bool.not_false, cond_true, cond_false, Int.toNat_natCast, Int.toNat_zero, Int.toNat_one, Option.bind_some, wr, AV.toB, AV.toI, AV.toS, if_true, a1, hgl, rdn hrd, Bool.true_and, Bool.false_and]
      · refine ⟨H1, ?_, a2⟩
        rw [df c3, Bool.false_and, Bool.and_false]
        by_cases c4 : c < 0
        · simp (disch := omega) only [impl_IsRedundant.f, impl_IsRedundant.j0, dt, df, bt, bf, nt, nf, Bool.and_self, Bool.not_true, Bool.not_false, cond_true, cond_false, Int.toNat_natCast, Int.toNat_zero, Int.toNat_one, Option.bind_some, wr, AV.toB, AV.toI, AV.toS, if_true, a1, hgl]
        · simp (disch := omega) only [impl_IsRedundant.f, impl_IsRedundant.j0, dt, df, bt, bf, nt, nf, Bool.and_self, Bool.not_true, Bool.not_false, cond_true, cond_false, Int.toNat_natCast, Int.toNat_zero, Int.toNat_one, Option.bind_some, wr, AV.toB, AV.toI, AV.toS, if_true, a1, hgl]
end Go.Proofs.Ytjikkamhljbipaa.Rp
/- Two lists are the same. No conditions. -/
set_option linter.unusedVariables false
set_option linter.unusedSimpArgs false
namespace Go.Proofs.Ytjikkamhljbipaa.Rp
open Go Go.RowKit Go.Proofs.Ytjikkamhljbipaa.Ab

theorem sameInts_l0 (rec : Rec) (k : Nat) {H : Hp} {s t : Sl} {x y : List Int} (hs : Reads .i64 H s x) (ht : Reads .i64 H t y) (hl : x.length = y.length) (h1 : x.length ≤ 1000) :
    ∀ (j i fuel : Nat), i + j = x.length → j < fuel → laws_sameInts.l0 rec k fuel s t i H = some (.bool (decide (x.drop i = y.drop i)), H) := by
  have hsl := hs.len
  have htl := ht.len
  intro j
  induction j with
  | zero =>
    intro i fuel hi hf
    obtain ⟨fuel, rfl⟩ : ∃ q, fuel = q + 1 := ⟨fuel - 1, by omega⟩
    rw [List.drop_eq_nil_of_le (show x.length ≤ i by omega), List.drop_eq_nil_of_le (show y.length ≤ i by omega)]
    simp (disch := omega) only [laws_sameInts.l0, dt, df, bt, bf, nt, nf, Bool.and_self, Bool.not_true, Bool.not_false, cond_true, cond_false, Int.toNat_natCast, Int.toNat_zero, Int.toNat_one, Option.bind_some, wr, AV.toB, AV.toI, AV.toS, if_true]
    rfl
  | succ j ih =>
    intro i fuel hi hf
    obtain ⟨fuel, rfl⟩ : ∃ q, fuel = q + 1 := ⟨fuel - 1, by omega⟩
    have hx : i < x.length := by omega
    have hy : i < y.length := by omega
    have ex : x.drop i = x.getD i 0 :: x.drop (i + 1) := by
      rw [List.drop_eq_getElem_cons hx, List.getD_eq_getElem?_getD, List.getElem?_eq_getElem hx]; rfl
    have ey : y.drop i = y.getD i 0 :: y.drop (i + 1) := by
      rw [List.drop_eq_getElem_cons hy, List.getD_eq_getElem?_getD, List.getElem?_eq_getElem hy]; rfl
    rw [ex, ey]
    by_cases c : x.getD i 0 = y.getD i 0
    · have d1 := ih (i + 1) fuel (by omega) (by omega)
      push_cast at d1
      rw [show decide (x.getD i 0 :: x.drop (i + 1) = y.getD i 0 :: y.drop (i + 1)) = decide (x.drop (i + 1) = y.drop (i + 1)) by rw [c]; simp, ← d1]
      simp (disch := omega) only [laws_sameInts.l0, dt, df, bt, bf, nt, nf, Bool.and_self, Bool.not_true, Bool.not_false, cond_true, cond_false, Int.toNat_natCast, Int.toNat_zero, Int.toNat_one, Option.bind_some, wr, AV.toB, AV.toI, AV.toS, if_true, rdn hs, rdn ht, nf]
    · rw [show decide (x.getD i 0 :: x.drop (i + 1) = y.getD i 0 :: y.drop (i + 1)) = false from decide_eq_false fun h => c (List.cons.inj h).1]
      simp (disch := omega) only [laws_sameInts.l0, dt, df, bt, bf, nt, nf, Bool.and_self, Bool.not_true, Bool.not_false, cond_true, cond_false, Int.toNat_natCast, Int.toNat_zero, Int.toNat_one, Option.bind_some, wr, AV.toB, AV.toI, AV.toS, if_true, rdn hs, rdn ht, nt]
theorem sameInts_ok {k : Nat} (hk : 2000000 ≤ k) {H : Hp} {s t : Sl} {x y : List Int} (hs : Reads .i64 H s x) (ht : Reads .i64 H t y) (h1 : x.length ≤ 1000) (h2 : y.length ≤ 1000) :
    callF PP orc k laws_sameInts.id [.sl 1 s, .sl 1 t] H = some (.bool (decide (x = y)), H) := by
  obtain ⟨k, rfl⟩ : ∃ q, k = q + 1 := ⟨k - 1, by omega⟩
  rw [laws_sameInts.call]
  have hsl := hs.len
  have htl := ht.len
  by_cases c : x.length = y.length
  · have d1 := sameInts_l0 (callF PP orc k) k hs ht c h1 x.length 0 k (by omega) (by omega)
    simp only [Int.natCast_zero, List.drop_zero] at d1
    rw [← d1]
    simp (disch := omega) only [laws_sameInts.f, dt, df, bt, bf, nt, nf, Bool.and_self, Bool.not_true, Bool.not_false, cond_true, cond_false, Int.toNat_natCast, Int.toNat_zero, Int.toNat_one, Option.bind_some, wr, AV.toB, AV.toI, AV.toS, if_true]
  · rw [decide_eq_false (fun h => c (congrArg List.length h))]
    simp (disch := omega) only [laws_sameInts.f, dt, df, bt, bf, nt, nf, Bool.and_self, Bool.not_true, Bool.not_false, cond_true, cond_false, Int.toNat_natCast, Int.toNat_zero, Int.toNat_one, Option.bind_some, wr, AV.toB, AV.toI, AV.toS, if_true]
theorem same_ok {k : Nat} (hk : 2000000 ≤ k) {H : Hp} {s t : Sl} {x : List Int} (hs : Reads .i64 H s x) (ht : Reads .i64 H t x) (h1 : x.length ≤ 1000) :
    callF PP orc k laws_sameInts.id [.sl 1 s, .sl 1 t] H = some (.bool true, H) := by
  rw [sameInts_ok hk hs ht h1 h1, decide_eq_true rfl]
end Go.Proofs.Ytjikkamhljbipaa.Rp
/- The program's own MakeMinimal; two puzzles are the same. No conditions. -/
set_option linter.unusedVariables false
set_option linter.unusedSimpArgs false
namespace Go.Proofs.Ytjikkamhljbipaa.Rp
open Go Go.RowKit Go.Proofs.Ytjikkamhljbipaa.Ab

theorem implMM_l0 {k : Nat} (hk : 2000520 ≤ k) {B0 B : Hp} {n y0 : Int} {y1 y2 gt st : Sl} {qs : List R} {len : Nat} (hB : B0 <+: B) (hgb : gt.blk < B.length) (hn : 2 ≤ n ∧ n ≤ 4) (hlen : len ≤ 1000) (hql : qs.length ≤ 1000) (hqc : ∀ r ∈ qs, r.cells.length ≤ 1000) :
    ∀ (j i fuel : Nat) (H : Hp) (g : List Int), i + j = len → j < fuel → B0 <+: H → g.length = len → Own 1 B0 H gt (g.map (.int .i64)) → WN B H st qs →
      ∃ H', impl_MakeMinimal.l0 (callF PP orc k) k fuel (len : Int) i y0 y1 y2 n gt st H = some (.tup [.agg [.int .i64 n, .sl 1 gt, .sl 3 st], .bool true], H') ∧ B0 <+: H' ∧ Own 1 B0 H' gt ((minFrom n (qs.map R.val) g i j).map (.int .i64)) ∧ WN B H' st qs := by
  intro j
  induction j with
  | zero =>
    intro i fuel H g hi hf hp hl ho hw
    obtain ⟨fuel, rfl⟩ : ∃ q, fuel = q + 1 := ⟨fuel - 1, by omega⟩
    refine ⟨H, ?_, hp, ho, hw⟩
    simp (disch := omega) only [impl_MakeMinimal.l0, impl_MakeMinimal.j2, dt, df, bt, bf, nt, nf, Bool.and_self, Bool.not_true, Bool.not_false, cond_true, cond_false, Int.toNat_natCast, Int.toNat_zero, Int.toNat_one, Option.bind_some, wr, AV.toB, AV.toI, AV.toS, if_true]
  | succ j ih =>
    intro i fuel H g hi hf hp hl ho hw
    obtain ⟨fuel, rfl⟩ : ∃ q, fuel = q + 1 := ⟨fuel - 1, by omega⟩
    have hgt := (own_reads ho).len
    have hz : PuzAt H n gt st g qs := ⟨own_reads ho, hw.reads, hn, by omega, hql, hqc⟩
    obtain ⟨H1, a1, a2⟩ := implIsRedundant_ok hk hz ho.nn hw.cn (i : Int)
    rw [minFrom]
    cases c : redundantV n g (qs.map R.val) i with
    | true =>
      rw [c] at a1
      rw [ip rfl]
      obtain ⟨H2, b1, b2, b3, b4⟩ := own_set1 (own_pf ho a2) (hp.trans a2) i (by omega) 0
      have hl1 : H2.length = H1.length := by
        have := own_sto (own_pf ho a2) (hp.trans a2) i [.int .i64 0] (by rw [List.length_map]; show _ + 1 ≤ _; omega)
        obtain ⟨H3, q1, q2, q3, q4, q5⟩ := this
        rw [Nat.mul_one] at b1
        rw [b1] at q1
        simp only [Option.some.injEq] at q1
        rw [q1]; exact q5
      obtain ⟨H', d1, d2, d3, d4⟩ := ih (i + 1) fuel H2 (g.set i 0) (by omega) (by omega) b2 (by simpa using hl) b3 ((hw.pf a2).wr b4.but hl1 hgb)
      push_cast at d1
      refine ⟨H', ?_, d2, d3, d4⟩
      simp (disch := omega) only [impl_MakeMinimal.l0, impl_MakeMinimal.j1, dt, df, bt, bf, nt, nf, Bool.and_self, Bool.not_true, Bool.not_false, cond_true, cond_false, Int.toNat_natCast, Int.toNat_zero, Int.toNat_one, Option.bind_some, wr, AV.toB, AV.toI, AV.toS, if_true, a1, b1, d1]
    | false =>
      rw [c] at a1
      rw [iN (by simp)]
      obtain ⟨H', d1, d2, d3, d4⟩ := ih (i + 1) fuel H1 g (by omega) (by omega) (hp.trans a2) hl (own_pf ho a2) (hw.pf a2)
      push_cast at d1
      refine ⟨H', ?_, d2, d3, d4⟩
      simp (disch := omega) only [impl_MakeMinimal.l0, impl_MakeMinimal.j1, dt, df, bt, bf, nt, nf, Bool.and_self, Bool.not_true, Bool.not_false, cond_true, cond_false, Int.toNat_natCast, Int.toNat_zero, Int.toNat_one, Option.bind_some, wr, AV.toB, AV.toI, AV.toS, if_true, a1, d1]
theorem implMakeMinimal_ok {k : Nat} (hk : 2000530 ≤ k) {H : Hp} {n : Int} {gs s : Sl} {given : List Int} {rs : List R} (hz : PuzAt H n gs s given rs) (hnil : gs.nil = false) (hcn : ∀ r ∈ rs, r.sl.nil = false ∨ r.cells = []) :
    ∃ H', H <+: H' ∧ ((minimalOk n given (rs.map R.val) = false ∧ callF PP orc k impl_MakeMinimal.id [.agg [.int .i64 n, .sl 1 gs, .sl 3 s]] H = some (.tup [.agg [.int .i64 0, .sl 1 Sl.none, .sl 3 Sl.none], .bool false], H')) ∨
      (minimalOk n given (rs.map R.val) = true ∧ ∃ gt st qs, callF PP orc k impl_MakeMinimal.id [.agg [.int .i64 n, .sl 1 gs, .sl 3 s]] H = some (.tup [.agg [.int .i64 n, .sl 1 gt, .sl 3 st], .bool true], H') ∧ PuzAt H' n gt st (minimalV n given (rs.map R.val)) qs ∧ qs.map R.val = rs.map R.val ∧ gt.nil = false ∧ (∀ r ∈ qs, r.sl.nil = false ∨ r.cells = []))) := by
  obtain ⟨k, rfl⟩ : ∃ q, k = q + 1 := ⟨k - 1, by omega⟩
  rw [impl_MakeMinimal.call]
  obtain ⟨H1, a1, a2⟩ := onlyOne_ok (show 2000511 ≤ k by omega) hz hnil
  cases c : minimalOk n given (rs.map R.val) with
  | false =>
    rw [c] at a1
    exact ⟨H1, a2, .inl ⟨rfl, by simp only [impl_MakeMinimal.f, dt, df, bt, bf, nt, nf, Bool.and_self, Bool.not_true, Bool.not_false, cond_true, cond_false, Int.toNat_natCast, Int.toNat_zero, Int.toNat_one, Option.bind_some, wr, AV.toB, AV.toI, AV.toS, if_true, a1]⟩⟩
  | true =>
    rw [c] at a1
    obtain ⟨st, qs, H2, b1, b2, b3, b4, b5⟩ := copyPuzzle_ok (show 2000002 ≤ k by omega) (hz.pf a2) hnil hcn
    have hql : qs.length = rs.length := by have := congrArg List.length b5; simpa using this
    have hzl := hz.rl
    have hgl := hz.gl
    have hqc := val_cells b5 1000 hz.rc
    obtain ⟨H', d1, d2, d3, d4⟩ := implMM_l0 (show 2000520 ≤ k by omega) (B0 := H1) (y0 := 0) (y1 := Sl.none) (y2 := Sl.none) (gt := Sl.mk false H1.length 0 given.length) (List.prefix_append _ _) (by simp) hz.n4 hgl (by omega) hqc given.length 0 k H2 given (by omega) (by omega) b2 rfl b3 b4
    simp only [Int.natCast_zero] at d1
    have e : minFrom n (qs.map R.val) given 0 given.length = minimalV n given (rs.map R.val) := by rw [b5]; rfl
    rw [e] at d3
    refine ⟨H', a2.trans d2, .inr ⟨rfl, Sl.mk false H1.length 0 given.length, st, qs, ?_, ⟨own_reads d3, d4.reads, hz.n4, by unfold minimalV; rw [minFrom_len]; exact hgl, by omega, hqc⟩, b5, rfl, d4.cn⟩⟩
    simp only [impl_MakeMinimal.f, dt, df, bt, bf, nt, nf, Bool.and_self, Bool.not_true, Bool.not_false, cond_true, cond_false, Int.toNat_natCast, Int.toNat_zero, Int.toNat_one, Option.bind_some, wr, AV.toB, AV.toI, AV.toS, if_true, a1, b1, AV.isAgg, AV.cel, List.length_cons, List.length_nil, List.getD_cons_zero, List.getD_cons_succ, d1]
    rfl
theorem val_at {rs qs : List R} (h : qs.map R.val = rs.map R.val) (i : Nat) (h1 : i < rs.length) (h2 : i < qs.length) : qs[i].kind = rs[i].kind ∧ qs[i].cells = rs[i].cells ∧ qs[i].value = rs[i].value := by
  have e : (qs.map R.val)[i]'(by simpa using h2) = (rs.map R.val)[i]'(by simpa using h1) := by simp only [h]
  simp only [List.getElem_map] at e
  exact ⟨congrArg (·.1) e, congrArg (·.2.1) e, congrArg (·.2.2) e⟩
theorem samePuzzle_l2 {k : Nat} (hk : 2000000 ≤ k) {H : Hp} {a0 b0 : Int} {a1 b1 s t : Sl} {rs qs : List R} (hs : ReadsR H s rs) (ht : ReadsR H t qs) (hv : qs.map R.val = rs.map R.val) (hl : rs.length ≤ 1000) (hc : ∀ r ∈ rs, r.cells.length ≤ 1000) :
    ∀ (j i fuel : Nat), i + j = rs.length → j < fuel → laws_samePuzzle.l2 (callF PP orc k) k fuel i a0 a1 s b0 b1 t H = some (.bool true, H) := by
  have hql : qs.length = rs.length := by have := congrArg List.length hv; simpa using this
  have hsl := hs.len
  have htl := ht.len
  intro j
  induction j with
  | zero =>
    intro i fuel hi hf
    obtain ⟨fuel, rfl⟩ : ∃ q, fuel = q + 1 := ⟨fuel - 1, by omega⟩
    simp (disch := omega) only [laws_samePuzzle.l2, dt, df, bt, bf, nt, nf, Bool.and_self, Bool.not_true, Bool.not_false, cond_true, cond_false, Int.toNat_natCast, Int.toNat_zero, Int.toNat_one, Option.bind_some, wr, AV.toB, AV.toI, AV.toS, if_true]
  | succ j ih =>
    intro i fuel hi hf
    obtain ⟨fuel, rfl⟩ : ∃ q, fuel = q + 1 := ⟨fuel - 1, by omega⟩
    have h1 : i < rs.length := by omega
    have h2 : i < qs.length := by omega
    obtain ⟨v1, v2, v3⟩ := val_at hv i h1 h2
    obtain ⟨l0, l1, l2⟩ := rules_at1 hs i h1
    obtain ⟨m0, m1, m2⟩ := rules_at1 ht i h2
    rw [v1] at m0
    rw [v3] at m2
    have l0' : ldI .i64 H s.blk (s.off + i * 3 + 0) = some rs[i].kind := l0
    have l2' : ldI .i64 H s.blk (s.off + i * 3 + 2) = some rs[i].value := l2
    have m0' : ldI .i64 H t.blk (t.off + i * 3 + 0) = some rs[i].kind := m0
    have m2' : ldI .i64 H t.blk (t.off + i * 3 + 2) = some rs[i].value := m2
    have r1 := hs.cs i h1
    have r2 := ht.cs i h2
    rw [v2] at r2
    have sm := same_ok hk r1 r2 (hc _ (List.getElem_mem h1))
    have d1 := ih (i + 1) fuel (by omega) (by omega)
    push_cast at d1
    have e1 : (rs[i].kind != rs[i].kind) = false := by simp
    have e2 : (rs[i].value != rs[i].value) = false := by simp
    simp (disch := omega) only [laws_samePuzzle.l2, laws_samePuzzle.j3, laws_samePuzzle.j4, dt, df, bt, bf, nt, nf, Bool.and_self, Bool.not_true, Bool.not_false, cond_true, cond_false, Int.toNat_natCast, Int.toNat_zero, Int.toNat_one, Option.bind_some, wr, AV.toB, AV.toI, AV.toS, if_true, l0', l1, l2', m0', m1, m2', e1, e2, sm, d1]
theorem samePuzzle_ok {k : Nat} (hk : 2000001 ≤ k) {H : Hp} {n : Int} {a1 b1 s t : Sl} {g : List Int} {rs qs : List R} (ha : Reads .i64 H a1 g) (hb : Reads .i64 H b1 g) (hgl : g.length ≤ 1000) (hs : ReadsR H s rs) (ht : ReadsR H t qs) (hv : qs.map R.val = rs.map R.val) (hl : rs.length ≤ 1000) (hc : ∀ r ∈ rs, r.cells.length ≤ 1000) :
    callF PP orc k laws_samePuzzle.id [.agg [.int .i64 n, .sl 1 a1, .sl 3 s], .agg [.int .i64 n, .sl 1 b1, .sl 3 t]] H = some (.bool true, H) := by
  obtain ⟨k, rfl⟩ : ∃ q, k = q + 1 := ⟨k - 1, by omega⟩
  rw [laws_samePuzzle.call]
  have hql : qs.length = rs.length := by have := congrArg List.length hv; simpa using this
  have hsl := hs.len
  have htl := ht.len
  have sm := same_ok (show 2000000 ≤ k by omega) ha hb hgl
  have d1 := samePuzzle_l2 (show 2000000 ≤ k by omega) (a0 := n) (b0 := n) (a1 := a1) (b1 := b1) hs ht hv hl hc rs.length 0 k (by omega) (by omega)
  simp only [Int.natCast_zero] at d1
  have e1 : (n != n) = false := by simp
  simp (disch := omega) only [laws_samePuzzle.f, laws_samePuzzle.j0, laws_samePuzzle.j1, dt, df, bt, bf, nt, nf, Bool.and_self, Bool.not_true, Bool.not_false, cond_true, cond_false, Int.toNat_natCast, Int.toNat_zero, Int.toNat_one, Option.bind_some, wr, AV.toB, AV.toI, AV.toS, if_true, e1, sm, nf (show (s.len : Int) = (t.len : Int) by omega), d1]
theorem readsR_nil {H : Hp} : ReadsR H Sl.none [] := ⟨rfl, fun i hi => absurd hi (Nat.not_lt_zero _), fun i hi => absurd hi (Nat.not_lt_zero _), fun i hi => absurd hi (Nat.not_lt_zero _), fun i hi => absurd hi (Nat.not_lt_zero _)⟩
end Go.Proofs.Ytjikkamhljbipaa.Rp
/- How many solved squares there are: 2, 12, 576. No conditions. -/
set_option linter.unusedVariables false
set_option linter.unusedSimpArgs false
namespace Go.Proofs.Ytjikkamhljbipaa.Rp
open Go Go.RowKit Go.Proofs.Ytjikkamhljbipaa.Ab

def qN (a b c d : Nat) : Bool := (!(Nat.beq b 0) && Nat.beq b a) || ((!(Nat.beq c 0) && (Nat.beq c b || Nat.beq c a)) || (!(Nat.beq d 0) && (Nat.beq d c || (Nat.beq d b || Nat.beq d a))))
def clashN : List Nat → Bool
  | [a, b, c, d, e, f, g, h, i, j, k, l, m, n, o, p] => qN a b c d || (qN e f g h || (qN i j k l || (qN m n o p || (qN a e i m || (qN b f j n || (qN c g k o || qN d h l p))))))
  | l => clash (l.map Int.ofNat) 4
theorem line_eq (g : List Int) (c1 c2 c3 c4 : Int) (a b c d : Nat) (h1 : gv g c1 = a) (h2 : gv g c2 = b) (h3 : gv g c3 = c) (h4 : gv g c4 = d) : clashL g [c1, c2, c3, c4] [] = qN a b c d := by
  rw [Bool.eq_iff_iff]
  have eb : ∀ x y : Nat, (Nat.beq x y = true) = (x = y) := fun x y => by simp [Nat.beq_eq]
  simp only [clashL, h1, h2, h3, h4, qN, List.contains_cons, List.contains_nil, Bool.or_eq_true, Bool.and_eq_true, Bool.not_eq_true', Bool.or_false, beq_iff_eq, decide_eq_true_eq, Bool.false_eq_true, and_false, false_or, or_false, eb, ← Bool.not_eq_true]
  omega
theorem clash_eq (l : List Nat) : clash (l.map Int.ofNat) 4 = clashN l := by
  unfold clashN
  split
  · rename_i a b c d e f g h i j k l m n o p
    have key : ∀ G : List Int, clash G 4 = (clashL G [0, 1, 2, 3] [] || (clashL G [4, 5, 6, 7] [] || (clashL G [8, 9, 10, 11] [] || (clashL G [12, 13, 14, 15] [] || (clashL G [0, 4, 8, 12] [] || (clashL G [1, 5, 9, 13] [] || (clashL G [2, 6, 10, 14] [] || clashL G [3, 7, 11, 15] []))))))) := fun G => by
      have e : clash G 4 = (clashL G (lineCells 4 0) [] || (clashL G (lineCells 4 1) [] || (clashL G (lineCells 4 2) [] || (clashL G (lineCells 4 3) [] || (clashL G (lineCells 4 4) [] || (clashL G (lineCells 4 5) [] || (clashL G (lineCells 4 6) [] || (clashL G (lineCells 4 7) [] || false)))))))) := rfl
      rw [e, show lineCells 4 0 = [0, 1, 2, 3] by decide, show lineCells 4 1 = [4, 5, 6, 7] by decide, show lineCells 4 2 = [8, 9, 10, 11] by decide, show lineCells 4 3 = [12, 13, 14, 15] by decide, show lineCells 4 4 = [0, 4, 8, 12] by decide, show lineCells 4 5 = [1, 5, 9, 13] by decide, show lineCells 4 6 = [2, 6, 10, 14] by decide, show lineCells 4 7 = [3, 7, 11, 15] by decide, Bool.or_false]
    rw [key]
    rw [line_eq _ 0 1 2 3 a b c d rfl rfl rfl rfl, line_eq _ 4 5 6 7 e f g h rfl rfl rfl rfl, line_eq _ 8 9 10 11 i j k l rfl rfl rfl rfl, line_eq _ 12 13 14 15 m n o p rfl rfl rfl rfl,
      line_eq _ 0 4 8 12 a e i m rfl rfl rfl rfl, line_eq _ 1 5 9 13 b f j n rfl rfl rfl rfl, line_eq _ 2 6 10 14 c g k o rfl rfl rfl rfl, line_eq _ 3 7 11 15 d h l p rfl rfl rfl rfl]
  · rfl

def cntN : Nat → List Nat → Nat
  | 0, _ => 1
  | rem + 1, l =>
    (bif clashN (l.set (15 - rem) 1) then 0 else cntN rem (l.set (15 - rem) 1)) + ((bif clashN (l.set (15 - rem) 2) then 0 else cntN rem (l.set (15 - rem) 2)) +
    ((bif clashN (l.set (15 - rem) 3) then 0 else cntN rem (l.set (15 - rem) 3)) + ((bif clashN (l.set (15 - rem) 4) then 0 else cntN rem (l.set (15 - rem) 4)) + 0)))
theorem cnt_eq : ∀ (rem : Nat) (l : List Nat), cnt 4 rem (l.map Int.ofNat) = cntN rem l
  | 0, l => rfl
  | rem + 1, l => by
    have hs : ∀ (v : Nat) (w : Int), w = Int.ofNat v → (if clash ((l.map Int.ofNat).set (16 - (rem + 1)) w) 4 = true then 0 else cnt 4 rem ((l.map Int.ofNat).set (16 - (rem + 1)) w)) = (bif clashN (l.set (15 - rem) v) then 0 else cntN rem (l.set (15 - rem) v)) := by
      rintro v w rfl
      rw [show 16 - (rem + 1) = 15 - rem by omega, ← List.map_set, clash_eq, cnt_eq rem]
      cases clashN (l.set (15 - rem) v) <;> rfl
    show cntV _ 4 1 = _
    simp only [cntV]
    rw [cntN]
    exact congr (congrArg _ (hs 1 1 rfl)) (congr (congrArg _ (hs 2 (1 + 1) rfl)) (congr (congrArg _ (hs 3 (1 + 1 + 1) rfl)) (congr (congrArg _ (hs 4 (1 + 1 + 1 + 1) rfl)) rfl)))
set_option maxRecDepth 100000 in
theorem cntN4 : cntN 16 (List.replicate 16 0) = 576 := by decide +kernel
theorem cnt4 : cnt 4 16 (List.replicate 16 0) = 576 := by
  have := cnt_eq 16 (List.replicate 16 0)
  rw [cntN4] at this
  simpa using this
set_option maxRecDepth 100000 in
theorem cnt2 : cnt 2 4 (List.replicate 4 0) = 2 := by decide +kernel
set_option maxRecDepth 100000 in
theorem cnt3 : cnt 3 9 (List.replicate 9 0) = 12 := by decide +kernel
end Go.Proofs.Ytjikkamhljbipaa.Rp
/- A solved square with a number; a solved square that is drawn. No conditions. -/
set_option linter.unusedVariables false
set_option linter.unusedSimpArgs false
namespace Go.Proofs.Ytjikkamhljbipaa.Rp
open Go Go.RowKit Go.Proofs.Ytjikkamhljbipaa.Ab

/-- How many solved squares of a size there are. -/
def many (n : Int) : Nat := if n = 2 then 2 else if n = 3 then 12 else 576
theorem many_le (n : Int) : 1 ≤ many n ∧ many n ≤ 576 := by
  unfold many
  split
  · omega
  · split <;> omega
theorem cnt_many {n : Int} (hn : 2 ≤ n ∧ n ≤ 4) : cnt n (n * n).toNat (List.replicate (n * n).toNat 0) = many n := by
  have : n = 2 ∨ n = 3 ∨ n = 4 := by omega
  rcases this with rfl | rfl | rfl
  · exact cnt2
  · exact cnt3
  · exact cnt4
/-- A grid of a size with all cells filled. -/
def fullG (g : List Int) (n : Int) : Prop := g.length = (n * n).toNat ∧ ∀ v ∈ g, 1 ≤ v ∧ v ≤ n

theorem SquareNumber_ok {k : Nat} (hk : 2000100 ≤ k) {n x : Int} (hn : 2 ≤ n ∧ n ≤ 4) (hx : 0 ≤ x ∧ x < (many n : Int)) (H : Hp) :
    ∃ t g H', callF PP orc k spec_SquareNumber.id [.int .i64 n, .int .i64 x] H = some (.sl 1 t, H') ∧ H <+: H' ∧ Own 1 H H' t (g.map (.int .i64)) ∧ fullG g n := by
  obtain ⟨k, rfl⟩ : ∃ m, k = m + 1 := ⟨k - 1, by omega⟩
  rw [spec_SquareNumber.call]
  have hnn : 0 ≤ n * n ∧ n * n ≤ 16 := by
    have : n = 2 ∨ n = 3 ∨ n = 4 := by omega
    rcases this with rfl | rfl | rfl <;> decide
  obtain ⟨left, rfl⟩ := Int.eq_ofNat_of_zero_le hx.1
  have hmany : many n ≤ 576 := (many_le n).2
  have w : IntKind.i64.wrap (n * n) = n * n := wr (by omega) (by omega)
  obtain ⟨H3, a1, a2, a3, a4⟩ := sto1' (H := H ++ [some (Blk.mk false [.int .i64 0])]) (b := H.length) (x := .int .i64 0) (by simp) (.int .i64 (left : Int))
  have hp3 : H <+: H3 := a3.pf (Nat.le_refl _) (List.prefix_append _ _) (by omega)
  have hl3 : H3.length = H.length + 1 := by rw [a4]; simp
  have e0 : ∀ N : Nat, (List.replicate N [AV.int .i64 0]).flatten = (List.replicate N 0).map (.int .i64) := fun N => by
    induction N with
    | zero => rfl
    | succ N ih => simp [List.replicate_succ, ih]
  have hnew := own_new 1 H3 ((List.replicate (n * n).toNat 0).map (.int .i64)) (n * n).toNat (by simp)
  have hgz : gridOk (List.replicate (n * n).toNat 0) n = true := (gridOk_iff _ _).2 ⟨hn, by simp; omega, fun v hv => by have := (List.mem_replicate.1 hv).2; omega⟩
  obtain ⟨a, H4, b1, b2, b3, b4⟩ := l2Search_ok (b := H.length) hn (n * n).toNat (k := k) (by omega) (H := H3 ++ [some (Blk.mk false ((List.replicate (n * n).toNat 0).map (.int .i64)))]) (left := left) (Nat.le_refl _) (own_reads hnew) (by simp only; omega) hgz (fun i hi => by omega) (pf_get (List.prefix_append _ _) a2) (by omega)
  obtain ⟨t, g', rfl, c1, c2, c3, c4⟩ := b3 (by rw [cnt_many hn]; omega)
  have d1 := read_ok c1
  have d2 := appl_ok H4 g' .i64 (by omega)
  have hp4 : H <+: H4 := b2.but.pf (Nat.le_refl _) (hp3.trans (List.prefix_append _ _)) b2.le
  refine ⟨_, g', _, ?_, hp4.trans (List.prefix_append _ _), own_base (own_new 1 H4 (g'.map (.int .i64)) g'.length (by simp)) hp4, c2, c3⟩
  have hx0 : ¬ ((left : Int) < 0) := by omega
  simp only [Nat.sub_self] at b1
  have tl := c1.len
  simp only [spec_SquareNumber.f, spec_SquareNumber.j0, spec_SquareNumber.j1, l1In_ok (show 1 ≤ k by omega), hn, and_self, decide_true, Option.bind_some, AV.toB, Bool.not_true, cond_false, hx0, decide_false, a1, w, e0]
  rw [if_pos (by omega)]
  have b1' : callF PP orc k spec_l2Search.id [.sl 1 (Sl.mk false H3.length 0 (n * n).toNat), .int .i64 n, .int .i64 0, .ptr H.length 0] (H3 ++ [some (Blk.mk false ((List.replicate (n * n).toNat 0).map (.int .i64)))]) = some (.sl 1 t, H4) := b1
  simp only [b1', Option.bind_some, AV.toS, if_true, d1, tl, d2, cells_ok, Bool.and_self, cond_true]

theorem l20Solved_ok {k : Nat} (hk : 2000101 ≤ k) {b : Nat} {H : Hp} {l : List Int} {p : Nat} (h : RD b H l p) (hp : p ≤ 999999990) {n : Int} (hn : 2 ≤ n ∧ n ≤ 4) :
    ∃ t g p' H', callF PP orc k spec_l20Solved.id [.ptr b 0, .int .i64 n] H = some (.sl 1 t, H') ∧ RD b H' l p' ∧ p' ≤ p + 2 ∧ Adv b H H' ∧ Own 1 H H' t (g.map (.int .i64)) ∧ fullG g n := by
  obtain ⟨k, rfl⟩ : ∃ m, k = m + 1 := ⟨k - 1, by omega⟩
  rw [spec_l20Solved.call]
  have w : IntKind.i64.wrap (n - 2) = n - 2 := wr (by omega) (by omega)
  have hnew := own_new 1 H ([2, 12, 576].map (.int .i64)) 3 rfl
  have h0 : RD b (H ++ [some (Blk.mk false ([2, 12, 576].map (.int .i64)))]) l p := h.pf (List.prefix_append _ _)
  obtain ⟨v, H2, a1, a2, a3, a4, a5, a6, a7⟩ := pick_ok (show 1 ≤ k by omega) h0 (by omega) 256
  obtain ⟨u, H3, b1, b2, b3, b4, b5, b6, b7⟩ := pick_ok (show 1 ≤ k by omega) a2 (by omega) 3
  have hv := a6 (by omega)
  have hu := b6 (by omega)
  have hm : ldI .i64 (H ++ [some (Blk.mk false ([2, 12, 576].map (.int .i64)))]) H.length (0 + (n - 2).toNat) = some (many n : Int) := by
    have : n = 2 ∨ n = 3 ∨ n = 4 := by omega
    rcases this with rfl | rfl | rfl
    · exact reads_at (own_reads hnew) 0 (by simp)
    · exact reads_at (own_reads hnew) 1 (by simp)
    · exact reads_at (own_reads hnew) 2 (by simp)
  have hmp : 1 ≤ many n := (many_le n).1
  have hmp2 : many n ≤ 576 := (many_le n).2
  have w1 : IntKind.i64.wrap (v * 3) = v * 3 := wr (by omega) (by omega)
  have w2 : IntKind.i64.wrap (v * 3 + u) = v * 3 + u := wr (by omega) (by omega)
  have m0 : 0 ≤ (v * 3 + u).tmod (many n : Int) := Int.tmod_nonneg _ (by omega)
  have m1 : (v * 3 + u).tmod (many n : Int) < (many n : Int) := Int.tmod_lt_of_pos _ (by omega)
  obtain ⟨t, g, H4, c1, c2, c3, c4⟩ := SquareNumber_ok (show 2000100 ≤ k by omega) hn ⟨m0, m1⟩ H3
  have adv : Adv b H H3 := ⟨fun c x hc hx => b3 c x hc (a3 c x hc (pf_get (List.prefix_append _ _) hx)), by rw [b4, a4]; simp⟩
  refine ⟨t, g, p + 1 + 1, H4, ?_, b2.pf c2, by omega, adv.trans (pf_adv c2), ⟨c3.nn, c3.off, Nat.le_trans adv.le c3.blk, c3.get, c3.len⟩, c4⟩
  have q0 : (0 : Int) ≤ n - 2 := by omega
  have q1 : n - 2 < ((3 : Nat) : Int) := by omega
  have hz : ¬ ((many n : Int) = 0) := by omega
  simp only [List.map_cons, List.map_nil] at hm a1
  simp only [spec_l20Solved.f, w, q0, q1, decide_true, Bool.and_self, cond_true, Nat.mul_one, hm, Option.bind_some, a1, b1, AV.toI, if_true, hz, if_false, w1, w2, c1, AV.toS]
end Go.Proofs.Ytjikkamhljbipaa.Rp
