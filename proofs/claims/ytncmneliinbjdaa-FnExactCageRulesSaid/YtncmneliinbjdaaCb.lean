/- What the laws' small helpers come to: toIntS, eqIntS, markIntS, heldIntS. No conditions. -/
import Derived.Test.YtncmneliinbjdaaCa
set_option linter.unusedVariables false
set_option linter.unusedSimpArgs false
namespace Go.Proofs.Ytncmneliinbjdaa.Rp
open Go Go.RowKit Go.Proofs.Ytncmneliinbjdaa.Ab

theorem toIntS_l0 (rec : Rec) (k : Nat) {H0 : Hp} {s : Sl} {l : List Int} (hr : Reads .i64 H0 s l) (hl : l.length ≤ 1048576) :
    ∀ (j i n : Nat) (H : Hp) (t : Sl), i + j = l.length → j < n → H0 <+: H → Own 1 H0 H t ((l.take i ++ List.replicate j 0).map (.int .i64)) →
      ∃ H', laws_toIntS.l0 rec k n s t i H = some (.sl 1 t, H') ∧ H0 <+: H' ∧ Own 1 H0 H' t (l.map (.int .i64)) := by
  intro j
  induction j with
  | zero =>
    intro i n H t hi hn hp ho
    obtain ⟨n, rfl⟩ : ∃ m, n = m + 1 := ⟨n - 1, by omega⟩
    have e1 : l.take i = l := List.take_of_length_le (by omega)
    refine ⟨H, ?_, hp, by simpa [e1] using ho⟩
    have := hr.len
    simp [laws_toIntS.l0, laws_toIntS.j1, this, show ¬ i < l.length by omega]
  | succ j ih =>
    intro i n H t hi hn hp ho
    obtain ⟨n, rfl⟩ : ∃ m, n = m + 1 := ⟨n - 1, by omega⟩
    have h1 := hr.len
    have h2 : i < l.length := by omega
    have ht : t.len = l.length := by have := ho.len; simp at this; omega
    obtain ⟨H', a1, a2, a3, a4, a5⟩ := own_set ho hp i (by simp; omega) l[i]
    obtain ⟨H2, b1, b2, b3⟩ := ih (i + 1) n H' t (by omega) (by omega) a2 (by
      rw [← set_next l 0 i j h2]; exact a3)
    push_cast at b1
    refine ⟨H2, ?_, b2, b3⟩
    have h3 := reads_at (pf_reads hp hr) i h2
    have h4 := wrs (i := i) (by omega)
    simp [laws_toIntS.l0, h1, h2, ht, h3, a1, h4, b1]

theorem toIntS_ok {k : Nat} (hk : 2000000 ≤ k) {H : Hp} {s : Sl} {l : List Int} (hr : Reads .i64 H s l) (hl : l.length ≤ 1048576) :
    ∃ t H', callF PP orc k laws_toIntS.id [.sl 1 s] H = some (.sl 1 t, H') ∧ H <+: H' ∧ Own 1 H H' t (l.map (.int .i64)) := by
  obtain ⟨k, rfl⟩ : ∃ m, k = m + 1 := ⟨k - 1, by omega⟩
  have h1 := hr.len
  obtain ⟨H2, b1, b2, b3⟩ := toIntS_l0 (callF PP orc k) k hr hl l.length 0 k (H ++ [some ⟨false, (List.replicate l.length 0).map (.int .i64)⟩]) (Sl.mk false H.length 0 l.length) (by omega) (by omega) (List.prefix_append _ _) (by
    simpa using own_new 1 H ((List.replicate l.length 0).map (.int .i64)) l.length (by simp))
  refine ⟨_, H2, ?_, b2, b3⟩
  rw [laws_toIntS.call]
  simp only [laws_toIntS.f]
  rw [if_pos (by omega)]
  simpa [h1] using b1

theorem eqIntS_l0 (rec : Rec) (k : Nat) {H : Hp} {s t : Sl} {a b : List Int} (hs : Reads .i64 H s a) (ht : Reads .i64 H t b) (hl : a.length = b.length) (hb : a.length ≤ 1048576) :
    ∀ (j i n : Nat), i + j = a.length → j < n → laws_eqIntS.l0 rec k n s t i H = some (.bool (a.drop i == b.drop i), H) := by
  intro j
  induction j with
  | zero =>
    intro i n hi hn
    obtain ⟨n, rfl⟩ : ∃ m, n = m + 1 := ⟨n - 1, by omega⟩
    have := hs.len
    simp [laws_eqIntS.l0, this, show ¬ i < a.length by omega, List.drop_eq_nil_of_le (show a.length ≤ i by omega), List.drop_eq_nil_of_le (show b.length ≤ i by omega)]
  | succ j ih =>
    intro i n hi hn
    obtain ⟨n, rfl⟩ : ∃ m, n = m + 1 := ⟨n - 1, by omega⟩
    have h1 := hs.len
    have h2 := ht.len
    have hi1 : i < a.length := by omega
    have hi2 : i < b.length := by omega
    have e1 := reads_at hs i hi1
    have e2 := reads_at ht i hi2
    have h4 := wrs (i := i) (by omega)
    have h5 := ih (i + 1) n (by omega) (by omega)
    push_cast at h5
    rw [List.drop_eq_getElem_cons hi1, List.drop_eq_getElem_cons hi2]
    by_cases he : a[i] = b[i]
    · simp [laws_eqIntS.l0, h1, h2, hi1, hi2, e1, e2, h4, h5, he, -List.getElem_cons_drop]
    · have he1 : (a[i] != b[i]) = true := by simpa using he
      have he2 : (a[i] == b[i]) = false := by simpa using he
      simp [laws_eqIntS.l0, h1, h2, hi1, hi2, e1, e2, h4, h5, he1, he2, -List.getElem_cons_drop]

theorem eqIntS_ok {k : Nat} (hk : 2000000 ≤ k) {H : Hp} {s t : Sl} {a b : List Int} (hs : Reads .i64 H s a) (ht : Reads .i64 H t b) (hb : a.length ≤ 1048576) :
    callF PP orc k laws_eqIntS.id [.sl 1 s, .sl 1 t] H = some (.bool (a == b), H) := by
  obtain ⟨k, rfl⟩ : ∃ m, k = m + 1 := ⟨k - 1, by omega⟩
  rw [laws_eqIntS.call]
  have h1 := hs.len
  have h2 := ht.len
  by_cases hl : a.length = b.length
  · have := eqIntS_l0 (callF PP orc k) k hs ht hl hb a.length 0 k (by omega) (by omega)
    simp at this
    simp [laws_eqIntS.f, h1, h2, hl, this]
  · have hne : (a == b) = false := by simp; intro e; exact hl (by rw [e])
    have h3 : ((s.len : Int) != (t.len : Int)) = true := by simp; omega
    simp only [laws_eqIntS.f, h3, hne, cond_true]

/-- The numbers from k on. -/
def upFrom (k : Int) (n : Nat) : List Int := (List.range n).map fun (i : Nat) => k + (i : Int)
theorem upFrom_length (k : Int) (n : Nat) : (upFrom k n).length = n := by simp [upFrom]
theorem upFrom_get (k : Int) (n i : Nat) (h : i < n) : (upFrom k n)[i]? = some (k + (i : Int)) := by simp [upFrom, h]

theorem markIntS_l0 (rec : Rec) (k : Nat) {H0 : Hp} {s : Sl} {N : Nat} (hN : N ≤ 1048576) {q : Int} (hq : 0 ≤ q) (hq2 : q ≤ 4611686018427387904) :
    ∀ (j i n : Nat) (H : Hp) (l : List Int), i + j = N → j < n → l.length = N → H0 <+: H → Own 1 H0 H s (l.map (.int .i64)) → (∀ m, m < i → l[m]? = some (q + (m : Int))) →
      ∃ H', laws_markIntS.l0 rec k n s (q + (i : Int)) i H = some (.int .i64 (q + (N : Int)), H') ∧ H0 <+: H' ∧ Own 1 H0 H' s ((upFrom q N).map (.int .i64)) ∧ But s.blk H H' ∧ H'.length = H.length := by
  intro j
  induction j with
  | zero =>
    intro i n H l hi hn hl hp ho hm
    obtain ⟨n, rfl⟩ : ∃ m, n = m + 1 := ⟨n - 1, by omega⟩
    have h1 : s.len = N := by have := ho.len; simp at this; omega
    have e : upFrom q N = l := by
      apply List.ext_getElem?
      intro m
      by_cases hm' : m < N
      · rw [upFrom_get q N m hm', hm m (by omega)]
      · rw [List.getElem?_eq_none (by rw [upFrom_length]; omega), List.getElem?_eq_none (by omega)]
    refine ⟨H, ?_, hp, by rw [e]; exact ho, fun c x _ h => h, rfl⟩
    have : i = N := by omega
    subst this
    simp [laws_markIntS.l0, laws_markIntS.j1, h1]
  | succ j ih =>
    intro i n H l hi hn hl hp ho hm
    obtain ⟨n, rfl⟩ : ∃ m, n = m + 1 := ⟨n - 1, by omega⟩
    have h1 : s.len = N := by have := ho.len; simp at this; omega
    have h2 : i < N := by omega
    obtain ⟨H', a1, a2, a3, a4, a5⟩ := own_set ho hp i (by omega) (q + (i : Int))
    obtain ⟨H2, b1, b2, b3, b4, b5⟩ := ih (i + 1) n H' _ (by omega) (by omega) (by simpa using hl) a2 a3 (fun m hm' => by
      by_cases e : m = i
      · subst e; rw [List.getElem?_set_self (by omega)]
      · rw [List.getElem?_set_ne (by omega)]; exact hm m (by omega))
    push_cast at b1
    refine ⟨H2, ?_, b2, b3, fun c x hc h => b4 c x hc (a4 c x hc h), by omega⟩
    have h4 := wrs (i := i) (by omega)
    have h5 : IntKind.i64.wrap (q + (i : Int) + 1) = q + ((i : Int) + 1) := by rw [wr (by omega) (by omega)]; omega
    simp [laws_markIntS.l0, h1, h2, a1, h4, h5, b1]

theorem markIntS_ok {k : Nat} (hk : 2000000 ≤ k) {H0 H : Hp} {s : Sl} {l : List Int} {q : Int} (hq : 0 ≤ q) (hq2 : q ≤ 4611686018427387904) (hl : l.length ≤ 1048576) (hp : H0 <+: H) (ho : Own 1 H0 H s (l.map (.int .i64))) :
    ∃ H', callF PP orc k laws_markIntS.id [.sl 1 s, .int .i64 q] H = some (.int .i64 (q + (l.length : Int)), H') ∧ H0 <+: H' ∧ Own 1 H0 H' s ((upFrom q l.length).map (.int .i64)) ∧ But s.blk H H' ∧ H'.length = H.length := by
  obtain ⟨k, rfl⟩ : ∃ m, k = m + 1 := ⟨k - 1, by omega⟩
  obtain ⟨H', b⟩ := markIntS_l0 (callF PP orc k) k hl hq hq2 l.length 0 k H l (by omega) (by omega) rfl hp ho (fun m hm => absurd hm (Nat.not_lt_zero _))
  refine ⟨H', ?_⟩
  rw [laws_markIntS.call]
  simpa [laws_markIntS.f] using b

theorem heldIntS_l0 (rec : Rec) (k : Nat) {H : Hp} {s : Sl} {N : Nat} (hN : N ≤ 1048576) {q : Int} (hq : 0 ≤ q) (hq2 : q ≤ 4611686018427387904) (hr : Reads .i64 H s (upFrom q N)) :
    ∀ (j i n : Nat), i + j = N → j < n → laws_heldIntS.l0 rec k n s (q + (i : Int)) i H = some (.int .i64 (q + (N : Int)), H) := by
  intro j
  induction j with
  | zero =>
    intro i n hi hn
    obtain ⟨n, rfl⟩ : ∃ m, n = m + 1 := ⟨n - 1, by omega⟩
    have h1 : s.len = N := by have := hr.len; rw [upFrom_length] at this; exact this
    have : i = N := by omega
    subst this
    simp [laws_heldIntS.l0, laws_heldIntS.j1, h1]
  | succ j ih =>
    intro i n hi hn
    obtain ⟨n, rfl⟩ : ∃ m, n = m + 1 := ⟨n - 1, by omega⟩
    have h1 : s.len = N := by have := hr.len; rw [upFrom_length] at this; exact this
    have h2 : i < N := by omega
    have h3 := reads_at hr i (by rw [upFrom_length]; exact h2)
    have h4 := wrs (i := i) (by omega)
    have h5 : IntKind.i64.wrap (q + (i : Int) + 1) = q + ((i : Int) + 1) := by rw [wr (by omega) (by omega)]; omega
    have h6 : (upFrom q N)[i]'(by rw [upFrom_length]; exact h2) = q + (i : Int) := by have := upFrom_get q N i h2; rw [List.getElem?_eq_getElem (by rw [upFrom_length]; exact h2)] at this; exact Option.some.inj this
    rw [h6] at h3
    have b1 := ih (i + 1) n (by omega) (by omega)
    push_cast at b1
    simp [laws_heldIntS.l0, h1, h2, h3, h4, h5, b1]

theorem heldIntS_ok {k : Nat} (hk : 2000000 ≤ k) {H : Hp} {s : Sl} {N : Nat} (hN : N ≤ 1048576) {q : Int} (hq : 0 ≤ q) (hq2 : q ≤ 4611686018427387904) (hr : Reads .i64 H s (upFrom q N)) :
    callF PP orc k laws_heldIntS.id [.sl 1 s, .int .i64 q] H = some (.int .i64 (q + (N : Int)), H) := by
  obtain ⟨k, rfl⟩ : ∃ m, k = m + 1 := ⟨k - 1, by omega⟩
  have b := heldIntS_l0 (callF PP orc k) k hN hq hq2 hr N 0 k (by omega) (by omega)
  rw [laws_heldIntS.call]
  simpa [laws_heldIntS.f] using b
end Go.Proofs.Ytncmneliinbjdaa.Rp
