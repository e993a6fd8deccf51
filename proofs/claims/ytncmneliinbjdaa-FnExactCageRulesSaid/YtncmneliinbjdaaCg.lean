/- Lists of rules: read, owned, compared, marked, held. No conditions. -/
import Derived.Test.YtncmneliinbjdaaCb
set_option linter.unusedVariables false
set_option linter.unusedSimpArgs false
namespace Go.Proofs.Ytncmneliinbjdaa.Rp
open Go Go.RowKit Go.Proofs.Ytncmneliinbjdaa.Ab

/-- A rule as it lies in memory: its cells are a slice sl. -/
structure R where
  kind : Int
  sl : Sl
  cells : List Int
  value : Int
def R.val (r : R) : Int × List Int × Int := (r.kind, r.cells, r.value)
def R.av (r : R) : List AV := [.int .i64 r.kind, .sl 1 r.sl, .int .i64 r.value]

structure ReadsR (H : Hp) (s : Sl) (rs : List R) : Prop where
  len : s.len = rs.length
  c0 : ∀ i, (h : i < rs.length) → H.cell s.blk (s.off + i * 3) = some (.int .i64 rs[i].kind)
  c1 : ∀ i, (h : i < rs.length) → H.cell s.blk (s.off + i * 3 + 1) = some (.sl 1 rs[i].sl)
  c2 : ∀ i, (h : i < rs.length) → H.cell s.blk (s.off + i * 3 + 2) = some (.int .i64 rs[i].value)
  cs : ∀ i, (h : i < rs.length) → Reads .i64 H rs[i].sl rs[i].cells
theorem pf_readsR {H H' : Hp} (g : H <+: H') {s : Sl} {rs : List R} (h : ReadsR H s rs) : ReadsR H' s rs :=
  ⟨h.len, fun i hi => pf_cell g (h.c0 i hi), fun i hi => pf_cell g (h.c1 i hi), fun i hi => pf_cell g (h.c2 i hi), fun i hi => pf_reads g (h.cs i hi)⟩

theorem flat0 : ∀ (rs : List R) (i : Nat), (h : i < rs.length) → (rs.flatMap R.av)[i * 3]? = some (.int .i64 rs[i].kind) ∧ (rs.flatMap R.av)[i * 3 + 1]? = some (.sl 1 rs[i].sl) ∧ (rs.flatMap R.av)[i * 3 + 2]? = some (.int .i64 rs[i].value)
  | r :: rs, 0, h => by simp [R.av]
  | r :: rs, i + 1, h => by
    have := flat0 rs i (by simpa using h)
    have e : (i + 1) * 3 = i * 3 + 3 := by omega
    rw [e]
    simpa [R.av] using this
theorem flat_length (rs : List R) : (rs.flatMap R.av).length = rs.length * 3 := by
  induction rs with
  | nil => rfl
  | cons r rs ih => simp [ih, R.av]; omega
theorem flat_set0 : ∀ (rs : List R) (i : Nat) (q : Int), (h : i < rs.length) → (rs.flatMap R.av).set (i * 3) (.int .i64 q) = (rs.set i { rs[i] with kind := q }).flatMap R.av
  | r :: rs, 0, q, h => by simp [R.av]
  | r :: rs, i + 1, q, h => by
    have := flat_set0 rs i q (by simpa using h)
    rw [show (i + 1) * 3 = i * 3 + 3 by omega]
    simpa [R.av] using this
theorem flat_set2 : ∀ (rs : List R) (i : Nat) (q : Int), (h : i < rs.length) → (rs.flatMap R.av).set (i * 3 + 2) (.int .i64 q) = (rs.set i { rs[i] with value := q }).flatMap R.av
  | r :: rs, 0, q, h => by simp [R.av]
  | r :: rs, i + 1, q, h => by
    have := flat_set2 rs i q (by simpa using h)
    rw [show (i + 1) * 3 + 2 = i * 3 + 2 + 3 by omega]
    simpa [R.av] using this

theorem eqRule_ok {k : Nat} (hk : 2000001 ≤ k) {H : Hp} {k1 k2 v1 v2 : Int} {s t : Sl} {a b : List Int} (hs : Reads .i64 H s a) (ht : Reads .i64 H t b) (hb : a.length ≤ 1048576) :
    callF PP orc k laws_eqRule.id [.agg [.int .i64 k1, .sl 1 s, .int .i64 v1], .agg [.int .i64 k2, .sl 1 t, .int .i64 v2]] H = some (.bool ((k1, a, v1) == (k2, b, v2)), H) := by
  obtain ⟨k, rfl⟩ : ∃ m, k = m + 1 := ⟨k - 1, by omega⟩
  rw [laws_eqRule.call]
  have h := eqIntS_ok (show 2000000 ≤ k by omega) hs ht hb
  have e : ((k1, a, v1) == (k2, b, v2)) = (k1 == k2 && (a == b && v1 == v2)) := rfl
  rw [e]
  simp only [laws_eqRule.f, h, Option.bind_some, AV.toB]
  have bne' : ∀ x y : Int, (x != y) = !(x == y) := fun _ _ => rfl
  rw [bne', bne']
  cases (k1 == k2) <;> cases (a == b) <;> cases (v1 == v2) <;> rfl

theorem eqRuleS_l0 {k : Nat} (hk : 2000001 ≤ k) {H : Hp} {s t : Sl} {a b : List R} (hs : ReadsR H s a) (ht : ReadsR H t b) (hl : a.length = b.length) (hb : a.length ≤ 1048576) (hc : ∀ r ∈ a, r.cells.length ≤ 1048576) :
    ∀ (j i n : Nat), i + j = a.length → j < n → laws_eqRuleS.l0 (callF PP orc k) k n s t i H = some (.bool ((a.drop i).map R.val == (b.drop i).map R.val), H) := by
  intro j
  induction j with
  | zero =>
    intro i n hi hn
    obtain ⟨n, rfl⟩ : ∃ m, n = m + 1 := ⟨n - 1, by omega⟩
    have := hs.len
    simp [laws_eqRuleS.l0, this, show ¬ i < a.length by omega, List.drop_eq_nil_of_le (show a.length ≤ i by omega), List.drop_eq_nil_of_le (show b.length ≤ i by omega)]
  | succ j ih =>
    intro i n hi hn
    obtain ⟨n, rfl⟩ : ∃ m, n = m + 1 := ⟨n - 1, by omega⟩
    have h1 := hs.len
    have h2 := ht.len
    have hi1 : i < a.length := by omega
    have hi2 : i < b.length := by omega
    have h4 := wrs (i := i) (by omega)
    have h5 := ih (i + 1) n (by omega) (by omega)
    push_cast at h5
    rw [List.drop_eq_getElem_cons hi1, List.drop_eq_getElem_cons hi2, List.map_cons, List.map_cons]
    have h6 := eqRule_ok hk (k1 := a[i].kind) (k2 := b[i].kind) (v1 := a[i].value) (v2 := b[i].value) (hs.cs i hi1) (ht.cs i hi2) (hc _ (List.getElem_mem hi1))
    have q0 : (0 : Int) ≤ (i : Int) := by omega
    have q1 : (i : Int) < (s.len : Int) := by omega
    have q2 : (i : Int) < (t.len : Int) := by omega
    have l0 : ldI .i64 H s.blk (s.off + i * 3) = some a[i].kind := by unfold ldI; rw [hs.c0 i hi1]; simp [AV.toI]
    have l1 : ldS 1 H s.blk (s.off + i * 3 + 1) = some a[i].sl := by unfold ldS; rw [hs.c1 i hi1]; simp [AV.toS]
    have l2 : ldI .i64 H s.blk (s.off + i * 3 + 1 + 1) = some a[i].value := by unfold ldI; rw [show s.off + i * 3 + 1 + 1 = s.off + i * 3 + 2 from rfl, hs.c2 i hi1]; simp [AV.toI]
    have m0 : ldI .i64 H t.blk (t.off + i * 3) = some b[i].kind := by unfold ldI; rw [ht.c0 i hi2]; simp [AV.toI]
    have m1 : ldS 1 H t.blk (t.off + i * 3 + 1) = some b[i].sl := by unfold ldS; rw [ht.c1 i hi2]; simp [AV.toS]
    have m2 : ldI .i64 H t.blk (t.off + i * 3 + 1 + 1) = some b[i].value := by unfold ldI; rw [show t.off + i * 3 + 1 + 1 = t.off + i * 3 + 2 from rfl, ht.c2 i hi2]; simp [AV.toI]
    have e : (R.val a[i] :: (a.drop (i + 1)).map R.val == R.val b[i] :: (b.drop (i + 1)).map R.val) = (((a[i].kind, a[i].cells, a[i].value) == (b[i].kind, b[i].cells, b[i].value)) && ((a.drop (i + 1)).map R.val == (b.drop (i + 1)).map R.val)) := rfl
    rw [e]
    cases hq : ((a[i].kind, a[i].cells, a[i].value) == (b[i].kind, b[i].cells, b[i].value)) with
    | true =>
      rw [hq] at h6
      simp only [laws_eqRuleS.l0, q0, q1, q2, decide_true, Bool.and_self, cond_true, Int.toNat_natCast, l0, l1, l2, m0, m1, m2, Option.bind_some, h6, AV.toB, Bool.not_true, cond_false, h4, h5, Bool.true_and]
    | false =>
      rw [hq] at h6
      simp only [laws_eqRuleS.l0, q0, q1, q2, decide_true, Bool.and_self, cond_true, Int.toNat_natCast, l0, l1, l2, m0, m1, m2, Option.bind_some, h6, AV.toB, Bool.not_false, cond_false, Bool.false_and]

theorem eqRuleS_ok {k : Nat} (hk : 2000002 ≤ k) {H : Hp} {s t : Sl} {a b : List R} (hs : ReadsR H s a) (ht : ReadsR H t b) (hb : a.length ≤ 1048576) (hc : ∀ r ∈ a, r.cells.length ≤ 1048576) :
    callF PP orc k laws_eqRuleS.id [.sl 3 s, .sl 3 t] H = some (.bool (a.map R.val == b.map R.val), H) := by
  obtain ⟨k, rfl⟩ : ∃ m, k = m + 1 := ⟨k - 1, by omega⟩
  rw [laws_eqRuleS.call]
  have h1 := hs.len
  have h2 := ht.len
  by_cases hl : a.length = b.length
  · have := eqRuleS_l0 (show 2000001 ≤ k by omega) hs ht hl hb hc a.length 0 k (by omega) (by omega)
    simp only [List.drop_zero] at this
    have h3 : ((s.len : Int) != (t.len : Int)) = false := by simp; omega
    simp only [laws_eqRuleS.f, h3, cond_false]
    exact this
  · have hne : (a.map R.val == b.map R.val) = false := by
      cases hq : (a.map R.val == b.map R.val) with
      | false => rfl
      | true => exact absurd (by simpa using congrArg List.length (eq_of_beq hq)) hl
    have h3 : ((s.len : Int) != (t.len : Int)) = true := by simp; omega
    simp only [laws_eqRuleS.f, h3, hne, cond_true]

/-- The rules are marked: the numbers from q on, up to Q. -/
def Chain : Int → List R → Int → Prop
  | q, [], Q => Q = q
  | q, r :: rs, Q => r.kind = q ∧ r.cells = upFrom (q + 1) r.cells.length ∧ r.value = q + 1 + (r.cells.length : Int) ∧ Chain (q + 2 + (r.cells.length : Int)) rs Q
theorem Chain.le : ∀ {rs : List R} {q Q : Int}, Chain q rs Q → q ≤ Q
  | [], _, _, h => by simp only [Chain] at h; omega
  | r :: rs, q, Q, h => by
    simp only [Chain] at h
    have := Chain.le h.2.2.2
    omega
theorem Chain.snoc : ∀ {rs : List R} {q Q : Int} {r : R}, Chain q rs Q → r.kind = Q → r.cells = upFrom (Q + 1) r.cells.length → r.value = Q + 1 + (r.cells.length : Int) → Chain q (rs ++ [r]) (Q + 2 + (r.cells.length : Int))
  | [], q, Q, r, h, h1, h2, h3 => by
    simp only [Chain] at h; subst h
    exact ⟨h1, h2, h3, rfl⟩
  | x :: rs, q, Q, r, h, h1, h2, h3 => ⟨h.1, h.2.1, h.2.2.1, Chain.snoc h.2.2.2 h1 h2 h3⟩

theorem heldRuleS_l0 {k : Nat} (hk : 2000000 ≤ k) {H : Hp} {s : Sl} {rs : List R} (hr : ReadsR H s rs) (hb : rs.length ≤ 1048576) (hc : ∀ r ∈ rs, r.cells.length ≤ 1048576) {Q : Int} (hQ : Q ≤ 4611686018427387904) :
    ∀ (j i n : Nat) (q : Int), i + j = rs.length → j < n → 0 ≤ q → Chain q (rs.drop i) Q → laws_heldRuleS.l0 (callF PP orc k) k n s q i H = some (.int .i64 Q, H) := by
  intro j
  induction j with
  | zero =>
    intro i n q hi hn hq hch
    obtain ⟨n, rfl⟩ : ∃ m, n = m + 1 := ⟨n - 1, by omega⟩
    rw [List.drop_eq_nil_of_le (by omega)] at hch
    simp only [Chain] at hch
    subst hch
    have := hr.len
    simp [laws_heldRuleS.l0, laws_heldRuleS.j1, this, show ¬ i < rs.length by omega]
  | succ j ih =>
    intro i n q hi hn hq hch
    obtain ⟨n, rfl⟩ : ∃ m, n = m + 1 := ⟨n - 1, by omega⟩
    have hi1 : i < rs.length := by omega
    rw [List.drop_eq_getElem_cons hi1] at hch
    simp only [Chain] at hch
    obtain ⟨e1, e2, e3, e4⟩ := hch
    have hle := e4.le
    have hcl := hc _ (List.getElem_mem hi1)
    have h1 := hr.len
    have q0 : (0 : Int) ≤ (i : Int) := by omega
    have q1 : (i : Int) < (s.len : Int) := by omega
    have l0 : ldI .i64 H s.blk (s.off + i * 3 + 0) = some q := by unfold ldI; rw [Nat.add_zero, hr.c0 i hi1, e1]; simp [AV.toI]
    have l1 : ldS 1 H s.blk (s.off + i * 3 + 1) = some rs[i].sl := by unfold ldS; rw [hr.c1 i hi1]; simp [AV.toS]
    have l2 : ldI .i64 H s.blk (s.off + i * 3 + 2) = some rs[i].value := by unfold ldI; rw [hr.c2 i hi1]; simp [AV.toI]
    have w1 : IntKind.i64.wrap (q + 1) = q + 1 := wr (by omega) (by omega)
    have hrd := hr.cs i hi1
    rw [e2] at hrd
    have h6 := heldIntS_ok hk (q := q + 1) hcl (by omega) (by omega) hrd
    have w2 : IntKind.i64.wrap (q + 1 + (rs[i].cells.length : Int) + 1) = q + 2 + (rs[i].cells.length : Int) := by rw [wr (by omega) (by omega)]; omega
    have h4 := wrs (i := i) (by omega)
    have h5 := ih (i + 1) n (q + 2 + (rs[i].cells.length : Int)) (by omega) (by omega) (by omega) e4
    push_cast at h5
    have n1 : (q != q) = false := by simp
    have n2 : ¬ (q + 1 + (rs[i].cells.length : Int) < 0) := by omega
    have n3 : ((q + 1 + (rs[i].cells.length : Int)) != (q + 1 + (rs[i].cells.length : Int))) = false := by simp
    rw [e3] at l2
    simp only [laws_heldRuleS.l0, q0, q1, decide_true, Bool.and_self, cond_true, Int.toNat_natCast, l0, l1, l2, n1, n2, n3, decide_false, Option.bind_some, w1, h6, AV.toI, if_true, cond_false, h4, w2, h5]

theorem heldRuleS_ok {k : Nat} (hk : 2000001 ≤ k) {H : Hp} {s : Sl} {rs : List R} (hr : ReadsR H s rs) (hb : rs.length ≤ 1048576) (hc : ∀ r ∈ rs, r.cells.length ≤ 1048576) {q Q : Int} (hQ : Q ≤ 4611686018427387904) (hq : 0 ≤ q) (hch : Chain q rs Q) :
    callF PP orc k laws_heldRuleS.id [.sl 3 s, .int .i64 q] H = some (.int .i64 Q, H) := by
  obtain ⟨k, rfl⟩ : ∃ m, k = m + 1 := ⟨k - 1, by omega⟩
  rw [laws_heldRuleS.call]
  exact heldRuleS_l0 (by omega) hr hb hc hQ rs.length 0 k q (by omega) (by omega) hq hch
end Go.Proofs.Ytncmneliinbjdaa.Rp
