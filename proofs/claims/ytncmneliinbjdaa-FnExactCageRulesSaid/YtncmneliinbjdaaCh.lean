/- Lists of rules of one's own, marked. No conditions. -/
import Derived.Test.YtncmneliinbjdaaCg
set_option linter.unusedVariables false
set_option linter.unusedSimpArgs false
namespace Go.Proofs.Ytncmneliinbjdaa.Rp
open Go Go.RowKit Go.Proofs.Ytncmneliinbjdaa.Ab

theorem sto1 {H : Hp} {b o : Nat} {c : List AV} {v : AV} (hg : H[b]? = some (some ⟨false, c⟩)) (ho : o < c.length) : ∃ H', H.sto b o [v] = some H' ∧ H'[b]? = some (some ⟨false, c.set o v⟩) ∧ But b H H' ∧ H'.length = H.length := by
  have hb := (List.getElem?_eq_some_iff.1 hg).1
  refine ⟨H.set b (some ⟨false, c.set o v⟩), ?_, by rw [List.getElem?_set_self hb], fun d x hd hx => by rw [List.getElem?_set_ne (Ne.symm hd)]; exact hx, by simp⟩
  unfold Hp.sto
  rw [hg]
  have e : c.take o ++ [v] ++ c.drop (o + [v].length) = c.set o v := by rw [List.set_eq_take_append_cons_drop, if_pos ho]; simp
  simp only [e]
  rw [if_pos ⟨trivial, by simp; omega⟩]

structure OwnR (H0 H : Hp) (s : Sl) (rs : List R) : Prop where
  len : s.len = rs.length
  get : rs ≠ [] → s.off = 0 ∧ H0.length ≤ s.blk ∧ ∃ rest, H[s.blk]? = some (some ⟨false, rs.flatMap R.av ++ rest⟩)
  own : ∀ i, (h : i < rs.length) → Own 1 H0 H rs[i].sl (rs[i].cells.map (.int .i64))
  ne : ∀ i, (h : i < rs.length) → rs[i].sl.blk ≠ s.blk
  inj : ∀ i j, (hi : i < rs.length) → (hj : j < rs.length) → i ≠ j → rs[i].sl.blk ≠ rs[j].sl.blk

theorem OwnR.reads {H0 H : Hp} {s : Sl} {rs : List R} (h : OwnR H0 H s rs) : ReadsR H s rs := by
  have key : ∀ i, (hi : i < rs.length) → ∀ d v, (rs.flatMap R.av)[i * 3 + d]? = some v → H.cell s.blk (s.off + i * 3 + d) = some v := by
    intro i hi d v hv
    obtain ⟨g0, g1, rest, g2⟩ := h.get (by intro e; subst e; simp at hi)
    unfold Hp.cell
    rw [g2, g0]
    simp only
    have hl := (List.getElem?_eq_some_iff.1 hv).1
    rw [List.getElem?_append_left (by omega), show 0 + i * 3 + d = i * 3 + d by omega]
    exact hv
  exact ⟨h.len, fun i hi => key i hi 0 _ (flat0 rs i hi).1, fun i hi => key i hi 1 _ (flat0 rs i hi).2.1, fun i hi => key i hi 2 _ (flat0 rs i hi).2.2, fun i hi => own_reads (h.own i hi)⟩
theorem OwnR.pf {H0 H H' : Hp} {s : Sl} {rs : List R} (h : OwnR H0 H s rs) (g : H <+: H') : OwnR H0 H' s rs :=
  ⟨h.len, fun hn => by obtain ⟨a, b, r, c⟩ := h.get hn; exact ⟨a, b, r, pf_get g c⟩, fun i hi => own_pf (h.own i hi) g, h.ne, h.inj⟩
theorem OwnR.base {H0 H1 H : Hp} {s : Sl} {rs : List R} (h : OwnR H1 H s rs) (g : H0 <+: H1) : OwnR H0 H s rs :=
  ⟨h.len, fun hn => by obtain ⟨a, b, r, c⟩ := h.get hn; exact ⟨a, Nat.le_trans g.length_le b, r, c⟩, fun i hi => own_base (h.own i hi) g, h.ne, h.inj⟩
/-- Another block is written. -/
theorem OwnR.but {H0 H H' : Hp} {s : Sl} {rs : List R} (h : OwnR H0 H s rs) {b : Nat} (hb : b < H0.length) (g : But b H H') : OwnR H0 H' s rs :=
  ⟨h.len, fun hn => by obtain ⟨a, c, r, d⟩ := h.get hn; exact ⟨a, c, r, g _ _ (by omega) d⟩, fun i hi => g.own (by have := (h.own i hi).blk; omega) (h.own i hi), h.ne, h.inj⟩

theorem OwnR.upd {H0 H H' : Hp} {s : Sl} {rs : List R} (h : OwnR H0 H s rs) {i : Nat} (hi : i < rs.length) {r : R} {rest : List AV} (g : But s.blk H H') (hg : H'[s.blk]? = some (some ⟨false, (rs.set i r).flatMap R.av ++ rest⟩)) (h1 : r.sl = rs[i].sl) (h2 : r.cells = rs[i].cells) : OwnR H0 H' s (rs.set i r) := by
  have hsl : ∀ j, (hj : j < (rs.set i r).length) → (rs.set i r)[j].sl = (rs[j]'(by simpa using hj)).sl := by
    intro j hj
    by_cases e : i = j
    · subst e; simpa using h1
    · simp [List.getElem_set_ne e]
  have hcl : ∀ j, (hj : j < (rs.set i r).length) → (rs.set i r)[j].cells = (rs[j]'(by simpa using hj)).cells := by
    intro j hj
    by_cases e : i = j
    · subst e; simpa using h2
    · simp [List.getElem_set_ne e]
  obtain ⟨g0, g1, _⟩ := h.get (by intro e; subst e; simp at hi)
  refine ⟨by simpa using h.len, fun _ => ⟨g0, g1, rest, hg⟩, fun j hj => ?_, fun j hj => ?_, fun a b ha hb hn => ?_⟩
  · rw [hsl j hj, hcl j hj]; exact g.own (h.ne j (by simpa using hj)) (h.own j (by simpa using hj))
  · rw [hsl j hj]; exact h.ne j (by simpa using hj)
  · rw [hsl a ha, hsl b hb]; exact h.inj a b (by simpa using ha) (by simpa using hb) hn
theorem flat_cells (rs : List R) (i : Nat) (h : i < rs.length) (l : List Int) : (rs.set i { rs[i] with cells := l }).flatMap R.av = rs.flatMap R.av := by
  induction rs generalizing i with
  | nil => simp at h
  | cons r rs ih =>
    cases i with
    | zero => simp [R.av]
    | succ i => simpa using ih i (by simpa using h)
theorem OwnR.cells {H0 H H' : Hp} {s : Sl} {rs : List R} (h : OwnR H0 H s rs) {i : Nat} (hi : i < rs.length) {l : List Int} (g : But rs[i].sl.blk H H') (hg : Own 1 H0 H' rs[i].sl (l.map (.int .i64))) : OwnR H0 H' s (rs.set i { rs[i] with cells := l }) := by
  have hsl : ∀ j, (hj : j < (rs.set i { rs[i] with cells := l }).length) → (rs.set i { rs[i] with cells := l })[j].sl = (rs[j]'(by simpa using hj)).sl := by
    intro j hj
    by_cases e : i = j
    · subst e; simp
    · simp [List.getElem_set_ne e]
  obtain ⟨g0, g1, rest, g2⟩ := h.get (by intro e; subst e; simp at hi)
  refine ⟨by simpa using h.len, fun _ => ⟨g0, g1, rest, ?_⟩, fun j hj => ?_, fun j hj => ?_, fun a b ha hb hn => ?_⟩
  · rw [flat_cells rs i hi l]; exact g _ _ (Ne.symm (h.ne i hi)) g2
  · by_cases e : i = j
    · subst e; simpa using hg
    · have hj' : j < rs.length := by simpa using hj
      rw [hsl j hj]
      simp only [List.getElem_set_ne e]
      exact g.own (h.inj j i hj' hi (Ne.symm e)) (h.own j hj')
  · rw [hsl j hj]; exact h.ne j (by simpa using hj)
  · rw [hsl a ha, hsl b hb]; exact h.inj a b (by simpa using ha) (by simpa using hb) hn

theorem markRuleS_l0 {k : Nat} (hk : 2000000 ≤ k) {H0 : Hp} {s : Sl} {q1 : Int} (hq1 : 0 ≤ q1) (hq2 : q1 ≤ 1000000) :
    ∀ (j i n : Nat) (q : Int) (H : Hp) (rs : List R), i + j = rs.length → j < n → rs.length ≤ 1048576 → (∀ r ∈ rs, r.cells.length ≤ 1048576) → H0 <+: H → OwnR H0 H s rs → q1 ≤ q → q ≤ q1 + (i : Int) * 2097154 → Chain q1 (rs.take i) q →
      ∃ H' rs' Q, laws_markRuleS.l0 (callF PP orc k) k n s q i H = some (.int .i64 Q, H') ∧ H0 <+: H' ∧ OwnR H0 H' s rs' ∧ rs'.length = rs.length ∧ (∀ r ∈ rs', r.cells.length ≤ 1048576) ∧ Chain q1 rs' Q ∧ Q ≤ 4611686018427387904 := by
  intro j
  induction j with
  | zero =>
    intro i n q H rs hi hn hb hc hp ho hql hqb hch
    obtain ⟨n, rfl⟩ : ∃ m, n = m + 1 := ⟨n - 1, by omega⟩
    rw [List.take_of_length_le (by omega)] at hch
    have := ho.len
    refine ⟨H, rs, q, ?_, hp, ho, rfl, hc, hch, by omega⟩
    simp [laws_markRuleS.l0, laws_markRuleS.j1, this, show ¬ i < rs.length by omega]
  | succ j ih =>
    intro i n q H rs hi hn hb hc hp ho hql hqb hch
    obtain ⟨n, rfl⟩ : ∃ m, n = m + 1 := ⟨n - 1, by omega⟩
    have hi1 : i < rs.length := by omega
    have h1 := ho.len
    have q0 : (0 : Int) ≤ (i : Int) := by omega
    have q1' : (i : Int) < (s.len : Int) := by omega
    have hcl := hc _ (List.getElem_mem hi1)
    obtain ⟨g0, g1, rest, g2⟩ := ho.get (by intro e; subst e; simp at hi1)
    -- the kind
    obtain ⟨H1, a1, a2, a3, a4⟩ := sto1 (o := i * 3) (v := .int .i64 q) g2 (by rw [List.length_append, flat_length]; omega)
    rw [List.set_append_left _ _ (by rw [flat_length]; omega), flat_set0 rs i q hi1] at a2
    have o1 := ho.upd hi1 a3 a2 rfl rfl
    have p1 : H0 <+: H1 := a3.pf g1 hp (by omega)
    have hi2 : i < (rs.set i { rs[i] with kind := q }).length := by simpa using hi1
    -- the cells
    have l1 : ldS 1 H1 s.blk (s.off + i * 3 + 1) = some rs[i].sl := by unfold ldS; rw [o1.reads.c1 i hi2]; simp [AV.toS]
    have o1i := o1.own i hi2
    simp only [List.getElem_set_self] at o1i
    obtain ⟨H2, b1, b2, b3, b4, b5⟩ := markIntS_ok hk (q := q + 1) (by omega) (by omega) hcl p1 o1i
    have o2 := o1.cells hi2 (l := upFrom (q + 1) rs[i].cells.length) (by simpa using b4) (by simpa using b3)
    simp only [List.getElem_set_self, List.set_set] at o2
    have hi3 : i < (rs.set i { kind := q, sl := rs[i].sl, cells := upFrom (q + 1) rs[i].cells.length, value := rs[i].value }).length := by simpa using hi1
    -- the value
    obtain ⟨f0, f1, rest', f2⟩ := o2.get (by intro e; rw [e] at hi3; simp at hi3)
    obtain ⟨H3, c1, c2, c3, c4⟩ := sto1 (o := i * 3 + 2) (v := .int .i64 (q + 1 + (rs[i].cells.length : Int))) f2 (by rw [List.length_append, flat_length]; omega)
    rw [List.set_append_left _ _ (by rw [flat_length]; omega), flat_set2 _ i _ hi3] at c2
    have o3 := o2.upd hi3 c3 c2 rfl rfl
    simp only [List.getElem_set_self, List.set_set] at o3
    have p3 : H0 <+: H3 := c3.pf f1 b2 (by omega)
    have hlen : (upFrom (q + 1) rs[i].cells.length).length = rs[i].cells.length := upFrom_length _ _
    obtain ⟨H', rs', Q, d1, d2, d3, d4, d5, d6, d7⟩ := ih (i + 1) n (q + 2 + (rs[i].cells.length : Int)) H3 _ (by simpa using (by omega : i + 1 + j = rs.length)) (by omega) (by simpa using hb) (fun r hr => by
        rcases List.mem_or_eq_of_mem_set hr with h | h
        · exact hc r h
        · rw [h]; simpa [hlen] using hcl) p3 o3 (by omega) (by push_cast; omega) (by
        rw [List.take_set, List.take_succ_eq_append_getElem hi1, List.set_append_right _ _ (by simp; omega)]
        have := hch.snoc (r := { kind := q, sl := rs[i].sl, cells := upFrom (q + 1) rs[i].cells.length, value := q + 1 + (rs[i].cells.length : Int) }) rfl (by simp [hlen]) (by simp [hlen])
        simpa [hlen, show min i rs.length = i by omega] using this)
    refine ⟨H', rs', Q, ?_, d2, d3, by simpa using d4, d5, d6, d7⟩
    have w1 : IntKind.i64.wrap (q + 1) = q + 1 := wr (by omega) (by omega)
    have w2 : IntKind.i64.wrap (q + 1 + (rs[i].cells.length : Int) + 1) = q + 2 + (rs[i].cells.length : Int) := by rw [wr (by omega) (by omega)]; omega
    have h4 := wrs (i := i) (by omega)
    push_cast at d1
    have e0 : s.off + i * 3 + 0 = i * 3 := by omega
    have e2 : s.off + i * 3 + 2 = i * 3 + 2 := by omega
    simp only [laws_markRuleS.l0, q0, q1', decide_true, Bool.and_self, cond_true, Int.toNat_natCast, e0, e2, a1, l1, w1, b1, c1, Option.bind_some, AV.toI, if_true, w2, h4, d1]

theorem markRuleS_ok {k : Nat} (hk : 2000001 ≤ k) {H0 H : Hp} {s : Sl} {rs : List R} {q : Int} (hq : 0 ≤ q) (hq2 : q ≤ 1000000) (hb : rs.length ≤ 1048576) (hc : ∀ r ∈ rs, r.cells.length ≤ 1048576) (hp : H0 <+: H) (ho : OwnR H0 H s rs) :
    ∃ H' rs' Q, callF PP orc k laws_markRuleS.id [.sl 3 s, .int .i64 q] H = some (.int .i64 Q, H') ∧ H0 <+: H' ∧ OwnR H0 H' s rs' ∧ rs'.length = rs.length ∧ (∀ r ∈ rs', r.cells.length ≤ 1048576) ∧ Chain q rs' Q ∧ Q ≤ 4611686018427387904 := by
  obtain ⟨k, rfl⟩ : ∃ m, k = m + 1 := ⟨k - 1, by omega⟩
  rw [laws_markRuleS.call]
  exact markRuleS_l0 (by omega) hq hq2 rs.length 0 k q H rs (by omega) (by omega) hb hc hp ho (by omega) (by simp) rfl
end Go.Proofs.Ytncmneliinbjdaa.Rp
