/- Texts for the row of the law FnExactLoopAround, part 2: the plain machine, the program's functions on it, what they come to. No conditions. -/
import Derived.Test.YtoalafkpkllebaaAy
import Derived.Test.YtoalafkpkllebaaBuFnExactLoopAround0
import Derived.IntWalk
import Derived.Test.YtoalafkpkllebaaAa
import Derived.Test.YtoalafkpkllebaaBuFnExactLoopAround1
/- A kit for what the program's functions, as plain Lean functions on a heap, come to. No conditions. -/
set_option linter.unusedVariables false
set_option linter.unusedSimpArgs false
namespace Go.Proofs.Ytoalafkpkllebaa.Rp
open Go Go.RowKit Go.Proofs.Ytoalafkpkllebaa.Ab
theorem wr {n : Int} (h1 : -9223372036854775808 ≤ n) (h2 : n ≤ 9223372036854775807) : IntKind.i64.wrap n = n := by
  rw [IntWalk.i64_left]; exact IntWalk.wrap64_in n ⟨h1, h2⟩
theorem wrs {i : Nat} (h : i < 4611686018427387904) : IntKind.i64.wrap ((i : Int) + 1) = (i : Int) + 1 := wr (by omega) (by omega)
theorem set_next {α : Type} (l : List α) (d : α) (i j : Nat) (h : i < l.length) : (l.take i ++ List.replicate (j + 1) d).set i l[i] = l.take (i + 1) ++ List.replicate j d := by
  rw [List.set_append_right _ _ (by simp; omega), List.take_succ_eq_append_getElem h, List.append_assoc]
  simp [show min i l.length = i by omega, List.replicate_succ]
theorem pf_get {H H' : Hp} (g : H <+: H') {b : Nat} {x : Option Blk} (h : H[b]? = some x) : H'[b]? = some x := by
  obtain ⟨T, rfl⟩ := g
  have hb := (List.getElem?_eq_some_iff.1 h).1
  rw [List.getElem?_append_left hb]; exact h
theorem pf_cell {H H' : Hp} (g : H <+: H') {b o : Nat} {v : AV} (h : H.cell b o = some v) : H'.cell b o = some v := by
  unfold Hp.cell at h ⊢
  split at h
  · rename_i x hx; rw [pf_get g hx]; exact h
  · simp at h
theorem pf_reads {H H' : Hp} (g : H <+: H') {k : IntKind} {s : Sl} {l : List Int} (h : Reads k H s l) : Reads k H' s l := ⟨h.len, fun i hi => pf_cell g (h.cell i hi)⟩
theorem reads_at {H : Hp} {k : IntKind} {s : Sl} {l : List Int} (h : Reads k H s l) (i : Nat) (hi : i < l.length) : ldI k H s.blk (s.off + i) = some l[i] := by
  unfold ldI
  rw [h.cell i hi]
  simp [AV.toI]
theorem reads_nil {H : Hp} {k : IntKind} {s : Sl} (h : s.len = 0) : Reads k H s [] := ⟨h, fun i hi => absurd hi (Nat.not_lt_zero _)⟩
/-- A slice over a whole block that is new since H0, with cells c. -/
structure Own (sz : Nat) (H0 H : Hp) (s : Sl) (c : List AV) : Prop where
  nn : s.nil = false
  off : s.off = 0
  blk : H0.length ≤ s.blk
  get : H[s.blk]? = some (some ⟨false, c⟩)
  len : s.len * sz = c.length
/-- H' bears what H bears, but for the block b. -/
def But (b : Nat) (H H' : Hp) : Prop := ∀ (c : Nat) (x : Option Blk), c ≠ b → H[c]? = some x → H'[c]? = some x
theorem But.pf {b : Nat} {H H' H0 : Hp} (h : But b H H') (hb : H0.length ≤ b) (g : H0 <+: H) (hl : H.length ≤ H'.length) : H0 <+: H' := by
  have hl0 := g.length_le
  rw [List.prefix_iff_eq_take]
  apply List.ext_getElem?
  intro i
  by_cases hi : i < H0.length
  · rw [List.getElem?_take, if_pos hi]
    have e := List.getElem?_eq_getElem hi
    rw [e, h i _ (by omega) (pf_get g e)]
  · rw [List.getElem?_eq_none (by omega), List.getElem?_eq_none (by simp; omega)]
theorem But.cell {b : Nat} {H H' : Hp} (h : But b H H') {c o : Nat} (hc : c ≠ b) {v : AV} (hv : H.cell c o = some v) : H'.cell c o = some v := by
  unfold Hp.cell at hv ⊢
  split at hv
  · rename_i x hx; rw [h c _ hc hx]; exact hv
  · simp at hv
theorem But.reads {b : Nat} {H H' : Hp} (h : But b H H') {k : IntKind} {s : Sl} {l : List Int} (hs : s.blk ≠ b) (hr : Reads k H s l) : Reads k H' s l := ⟨hr.len, fun i hi => h.cell hs (hr.cell i hi)⟩
theorem But.own {b : Nat} {H H' H0 : Hp} (h : But b H H') {sz : Nat} {s : Sl} {c : List AV} (hs : s.blk ≠ b) (hr : Own sz H0 H s c) : Own sz H0 H' s c := ⟨hr.nn, hr.off, hr.blk, h _ _ hs hr.get, hr.len⟩
theorem own_cell {sz : Nat} {H0 H : Hp} {s : Sl} {c : List AV} (h : Own sz H0 H s c) (i : Nat) : H.cell s.blk (s.off + i) = c[i]? := by
  unfold Hp.cell; rw [h.get, h.off]; simp
theorem own_reads {k : IntKind} {H0 H : Hp} {s : Sl} {l : List Int} (h : Own 1 H0 H s (l.map (.int k))) : Reads k H s l :=
  ⟨by have := h.len; simpa using this, fun i hi => by rw [own_cell h]; simp [hi]⟩
theorem own_pf {sz : Nat} {H0 H H' : Hp} {s : Sl} {c : List AV} (h : Own sz H0 H s c) (g : H <+: H') : Own sz H0 H' s c := ⟨h.nn, h.off, h.blk, pf_get g h.get, h.len⟩
theorem own_base {sz : Nat} {H0 H1 H : Hp} {s : Sl} {c : List AV} (h : Own sz H1 H s c) (g : H0 <+: H1) : Own sz H0 H s c := ⟨h.nn, h.off, Nat.le_trans g.length_le h.blk, h.get, h.len⟩
theorem own_new (sz : Nat) (H : Hp) (c : List AV) (n : Nat) (hn : n * sz = c.length) : Own sz H (H ++ [some ⟨false, c⟩]) (Sl.mk false H.length 0 n) c := ⟨rfl, rfl, Nat.le_refl _, by simp, hn⟩
theorem own_sto {sz : Nat} {H0 H : Hp} {s : Sl} {c : List AV} (h : Own sz H0 H s c) (g : H0 <+: H) (o : Nat) (vs : List AV) (ho : o + vs.length ≤ c.length) :
    ∃ H', H.sto s.blk (s.off + o) vs = some H' ∧ H0 <+: H' ∧ Own sz H0 H' s (c.take o ++ vs ++ c.drop (o + vs.length)) ∧ But s.blk H H' ∧ H'.length = H.length := by
  have hb := (List.getElem?_eq_some_iff.1 h.get).1
  have hbut : But s.blk H (H.set s.blk (some ⟨false, c.take o ++ vs ++ c.drop (o + vs.length)⟩)) := fun d x hd hx => by rw [List.getElem?_set_ne (Ne.symm hd)]; exact hx
  refine ⟨H.set s.blk (some ⟨false, c.take o ++ vs ++ c.drop (o + vs.length)⟩), ?_, hbut.pf h.blk g (by simp), ⟨h.nn, h.off, h.blk, ?_, ?_⟩, hbut, by simp⟩
  · unfold Hp.sto
    rw [h.get, h.off]
    simp [ho]
  · rw [List.getElem?_set_self hb]
  · rw [h.len]; simp; omega
theorem own_app {sz : Nat} {H0 H : Hp} {s : Sl} {c : List AV} (h : Own sz H0 H s c) (g : H0 <+: H) (n : Nat) (vs : List AV) (hn : 0 < n) (hl : s.len + n ≤ 1073741824) (h1 : sz ≤ 1024) (h2 : 0 < sz) (hv : vs.length = n * sz) :
    ∃ H', H.app sz s n vs = some (Sl.mk false H.length 0 (s.len + n), H') ∧ H0 <+: H' ∧ Own sz H0 H' (Sl.mk false H.length 0 (s.len + n)) (c ++ vs) ∧ But s.blk H H' ∧ H'.length = H.length + 1 := by
  have hb := (List.getElem?_eq_some_iff.1 h.get).1
  have hbut : But s.blk H (H.set s.blk none ++ [some ⟨false, c ++ vs⟩]) := fun d x hd hx => by
    have hd' := (List.getElem?_eq_some_iff.1 hx).1
    rw [List.getElem?_append_left (by simpa using hd'), List.getElem?_set_ne (Ne.symm hd)]; exact hx
  refine ⟨H.set s.blk none ++ [some ⟨false, c ++ vs⟩], ?_, hbut.pf h.blk g (by simp), ⟨rfl, rfl, ?_, by simp, ?_⟩, hbut, by simp⟩
  · unfold Hp.app
    rw [if_pos ⟨hl, h1, h2, hv⟩, if_neg (by omega), h.nn, h.get]
    simp only [Bool.false_eq_true, if_false]
    rw [if_pos ⟨trivial, h.off, h.len⟩]
  · exact g.length_le
  · simp only [List.length_append]; rw [Nat.add_mul, h.len, hv]
theorem own_app1 {H0 H : Hp} {s : Sl} {l : List Int} {k : IntKind} (h : Own 1 H0 H s (l.map (.int k))) (g : H0 <+: H) (n : Int) (hl : s.len < 1073741824) :
    ∃ H', H.app 1 s 1 [.int k n] = some (Sl.mk false H.length 0 (s.len + 1), H') ∧ H0 <+: H' ∧ Own 1 H0 H' (Sl.mk false H.length 0 (s.len + 1)) ((l ++ [n]).map (.int k)) ∧ But s.blk H H' ∧ H'.length = H.length + 1 := by
  have := own_app h g 1 [.int k n] (by omega) (by omega) (by omega) (by omega) rfl
  simpa using this
/-- A cell of a block of numbers is written. -/
theorem own_set {H0 H : Hp} {s : Sl} {l : List Int} {k : IntKind} (h : Own 1 H0 H s (l.map (.int k))) (g : H0 <+: H) (i : Nat) (hi : i < l.length) (n : Int) :
    ∃ H', H.sto s.blk (s.off + i) [.int k n] = some H' ∧ H0 <+: H' ∧ Own 1 H0 H' s ((l.set i n).map (.int k)) ∧ But s.blk H H' ∧ H'.length = H.length := by
  obtain ⟨H', a1, a2, a3, a4⟩ := own_sto h g i [.int k n] (by simp; omega)
  refine ⟨H', a1, a2, ?_, a4⟩
  have e : (l.set i n).map (AV.int k) = (l.map (.int k)).take i ++ [.int k n] ++ (l.map (.int k)).drop (i + 1) := by
    rw [List.set_eq_take_append_cons_drop, if_pos hi]; simp
  rw [e]; exact a3
/- Lists of truth values: copied, compared, marked, held. No conditions. -/
theorem dt {p : Prop} [Decidable p] (h : p) : decide p = true := decide_eq_true h
theorem df {p : Prop} [Decidable p] (h : ¬ p) : decide p = false := decide_eq_false h
theorem bt {a b : Int} (h : a = b) : (a == b) = true := by simp [h]
theorem bf {a b : Int} (h : a ≠ b) : (a == b) = false := by simp [h]
theorem nt {a b : Int} (h : a ≠ b) : (a != b) = true := by simp [h]
theorem nf {a b : Int} (h : a = b) : (a != b) = false := by simp [h]
theorem ip {α : Type} {c : Prop} [Decidable c] {a b : α} (h : c) : (if c then a else b) = a := if_pos h
theorem iN {α : Type} {c : Prop} [Decidable c] {a b : α} (h : ¬ c) : (if c then a else b) = b := if_neg h
theorem pf_readsB {H H' : Hp} (g : H <+: H') {s : Sl} {l : List Bool} (h : ReadsB H s l) : ReadsB H' s l := ⟨h.len, fun i hi => pf_cell g (h.cell i hi)⟩
theorem own_readsB {H0 H : Hp} {s : Sl} {l : List Bool} (h : Own 1 H0 H s (l.map .bool)) : ReadsB H s l :=
  ⟨by have := h.len; simpa using this, fun i hi => by rw [own_cell h]; simp [hi]⟩
theorem readsB_nil {H : Hp} {s : Sl} (h : s.len = 0) : ReadsB H s [] := ⟨h, fun i hi => absurd hi (Nat.not_lt_zero _)⟩
theorem rdb {H : Hp} {s : Sl} {l : List Bool} (h : ReadsB H s l) {i : Nat} (hi : i < l.length) : ldB H s.blk (s.off + i * 1) = some (l.getD i false) := by
  unfold ldB
  rw [Nat.mul_one, h.cell i hi, List.getD_eq_getElem?_getD, List.getElem?_eq_getElem hi]; rfl
theorem own_setB {H0 H : Hp} {s : Sl} {l : List Bool} (h : Own 1 H0 H s (l.map .bool)) (g : H0 <+: H) (i : Nat) (hi : i < l.length) (b : Bool) :
    ∃ H', H.sto s.blk (s.off + i * 1) [.bool b] = some H' ∧ H0 <+: H' ∧ Own 1 H0 H' s ((l.set i b).map .bool) ∧ But s.blk H H' ∧ H'.length = H.length := by
  obtain ⟨H', a1, a2, a3, a4⟩ := own_sto h g i [.bool b] (by simp; omega)
  refine ⟨H', by rw [Nat.mul_one]; exact a1, a2, ?_, a4⟩
  have e : (l.set i b).map AV.bool = (l.map .bool).take i ++ [.bool b] ++ (l.map .bool).drop (i + 1) := by
    rw [List.set_eq_take_append_cons_drop, if_pos hi]; simp
  rw [e]; exact a3
theorem own_appB {H0 H : Hp} {s : Sl} {l : List Bool} (h : Own 1 H0 H s (l.map .bool)) (g : H0 <+: H) (b : Bool) (hl : l.length < 1000) :
    ∃ t H', H.app 1 s 1 [.bool b] = some (t, H') ∧ H0 <+: H' ∧ Own 1 H0 H' t ((l ++ [b]).map .bool) := by
  have hlen := (own_readsB h).len
  obtain ⟨H', a1, a2, a3, _⟩ := own_app h g 1 [.bool b] (by omega) (by omega) (by omega) (by omega) rfl
  exact ⟨_, H', a1, a2, by simpa using a3⟩
theorem toBoolS_l0 (rec : Rec) (k : Nat) {H0 : Hp} {s : Sl} {l : List Bool} (hr : ReadsB H0 s l) (hl : l.length ≤ 1048576) :
    ∀ (j i n : Nat) (H : Hp) (t : Sl), i + j = l.length → j < n → H0 <+: H → Own 1 H0 H t ((l.take i ++ List.replicate j false).map .bool) →
      ∃ H', laws_toBoolS.l0 rec k n s t i H = some (.sl 1 t, H') ∧ H0 <+: H' ∧ Own 1 H0 H' t (l.map .bool) := by
  have h1 := hr.len
  intro j
  induction j with
  | zero =>
    intro i n H t hi hn hp ho
    obtain ⟨n, rfl⟩ : ∃ m, n = m + 1 := ⟨n - 1, by omega⟩
    have e1 : l.take i = l := List.take_of_length_le (by omega)
    refine ⟨H, ?_, hp, by simpa [e1] using ho⟩
    simp (disch := omega) only [laws_toBoolS.l0, laws_toBoolS.j1, df, cond_false]
  | succ j ih =>
    intro i n H t hi hn hp ho
    obtain ⟨n, rfl⟩ : ∃ m, n = m + 1 := ⟨n - 1, by omega⟩
    have h2 : i < l.length := by omega
    have ht : t.len = l.length := by have := ho.len; simp at this; omega
    obtain ⟨H', a1, a2, a3, a4, a5⟩ := own_setB ho hp i (by simp; omega) (l.getD i false)
    have e : (l.take i ++ List.replicate (j + 1) false).set i (l.getD i false) = l.take (i + 1) ++ List.replicate j false := by
      have := set_next l false i j h2
      rw [List.getD_eq_getElem?_getD, List.getElem?_eq_getElem h2]; exact this
    rw [e] at a3
    obtain ⟨H2, b1, b2, b3⟩ := ih (i + 1) n H' t (by omega) (by omega) a2 a3
    push_cast at b1
    refine ⟨H2, ?_, b2, b3⟩
    have h3 := rdb (pf_readsB hp hr) h2
    simp (disch := omega) only [laws_toBoolS.l0, dt, Bool.and_self, cond_true, Int.toNat_natCast, h3, Option.bind_some, a1, wr (n := (i : Int) + 1), b1]
theorem toBoolS_ok {k : Nat} (hk : 2000000 ≤ k) {H : Hp} {s : Sl} {l : List Bool} (hr : ReadsB H s l) (hl : l.length ≤ 1048576) :
    ∃ t H', callF PP orc k laws_toBoolS.id [.sl 1 s] H = some (.sl 1 t, H') ∧ H <+: H' ∧ Own 1 H H' t (l.map .bool) := by
  obtain ⟨k, rfl⟩ : ∃ q, k = q + 1 := ⟨k - 1, by omega⟩
  have h1 := hr.len
  obtain ⟨H2, b1, b2, b3⟩ := toBoolS_l0 (callF PP orc k) k hr hl l.length 0 k (H ++ [some ⟨false, (List.replicate l.length false).map .bool⟩]) (Sl.mk false H.length 0 l.length) (by omega) (by omega) (List.prefix_append _ _) (by
    simpa using own_new 1 H ((List.replicate l.length false).map .bool) l.length (by simp))
  refine ⟨_, H2, ?_, b2, b3⟩
  rw [laws_toBoolS.call]
  simp only [laws_toBoolS.f]
  rw [if_pos (by omega)]
  simpa [h1] using b1
/-- Two lists that are the same. -/
theorem eqBoolS_l0 (rec : Rec) (k : Nat) {H : Hp} {s t : Sl} {l : List Bool} (hs : ReadsB H s l) (ht : ReadsB H t l) (hb : l.length ≤ 1048576) :
    ∀ (j i n : Nat), i + j = l.length → j < n → laws_eqBoolS.l0 rec k n s t i H = some (.bool true, H) := by
  have h1 := hs.len
  have h2 := ht.len
  intro j
  induction j with
  | zero =>
    intro i n hi hn
    obtain ⟨n, rfl⟩ : ∃ m, n = m + 1 := ⟨n - 1, by omega⟩
    simp (disch := omega) only [laws_eqBoolS.l0, df, cond_false]
  | succ j ih =>
    intro i n hi hn
    obtain ⟨n, rfl⟩ : ∃ m, n = m + 1 := ⟨n - 1, by omega⟩
    have e1 := rdb hs (i := i) (by omega)
    have e2 := rdb ht (i := i) (by omega)
    have h5 := ih (i + 1) n (by omega) (by omega)
    push_cast at h5
    simp (disch := omega) only [laws_eqBoolS.l0, dt, Bool.and_self, cond_true, Int.toNat_natCast, e1, e2, Option.bind_some, beq_self_eq_true, Bool.not_true, cond_false, wr (n := (i : Int) + 1), h5]
theorem eqBoolS_ok {k : Nat} (hk : 2000000 ≤ k) {H : Hp} {s t : Sl} {l : List Bool} (hs : ReadsB H s l) (ht : ReadsB H t l) (hb : l.length ≤ 1048576) :
    callF PP orc k laws_eqBoolS.id [.sl 1 s, .sl 1 t] H = some (.bool true, H) := by
  obtain ⟨k, rfl⟩ : ∃ q, k = q + 1 := ⟨k - 1, by omega⟩
  rw [laws_eqBoolS.call]
  have h1 := hs.len
  have h2 := ht.len
  have b := eqBoolS_l0 (callF PP orc k) k hs ht hb l.length 0 k (by omega) (by omega)
  simp only [Int.natCast_zero] at b
  simp (disch := omega) only [laws_eqBoolS.f, nf, cond_false, b]
/-- The marks from q on. -/
def markB (q : Int) (n : Nat) : List Bool := (List.range n).map fun (i : Nat) => ((q + (i : Int)).tmod 3) == 0
theorem markB_length (q : Int) (n : Nat) : (markB q n).length = n := by simp [markB]
theorem markB_get (q : Int) (n i : Nat) (h : i < n) : (markB q n)[i]? = some (((q + (i : Int)).tmod 3) == 0) := by simp [markB, h]
theorem markBoolS_l0 (rec : Rec) (k : Nat) {H0 : Hp} {s : Sl} {N : Nat} (hN : N ≤ 1048576) {q : Int} (hq : 0 ≤ q) (hq2 : q ≤ 4611686018427387904) :
    ∀ (j i n : Nat) (H : Hp) (l : List Bool), i + j = N → j < n → l.length = N → H0 <+: H → Own 1 H0 H s (l.map .bool) → (∀ m, m < i → l[m]? = some (((q + (m : Int)).tmod 3) == 0)) →
      ∃ H', laws_markBoolS.l0 rec k n s (q + (i : Int)) i H = some (.int .i64 (q + (N : Int)), H') ∧ H0 <+: H' ∧ Own 1 H0 H' s ((markB q N).map .bool) ∧ But s.blk H H' ∧ H'.length = H.length := by
  intro j
  induction j with
  | zero =>
    intro i n H l hi hn hl hp ho hm
    obtain ⟨n, rfl⟩ : ∃ m, n = m + 1 := ⟨n - 1, by omega⟩
    have h1 : s.len = N := by have := ho.len; simp at this; omega
    have e : markB q N = l := by
      apply List.ext_getElem?
      intro m
      by_cases hm' : m < N
      · rw [markB_get q N m hm', hm m (by omega)]
      · rw [List.getElem?_eq_none (by rw [markB_length]; omega), List.getElem?_eq_none (by omega)]
    refine ⟨H, ?_, hp, by rw [e]; exact ho, fun c x _ h => h, rfl⟩
    have : i = N := by omega
    subst this
    simp (disch := omega) only [laws_markBoolS.l0, laws_markBoolS.j1, df, cond_false]
  | succ j ih =>
    intro i n H l hi hn hl hp ho hm
    obtain ⟨n, rfl⟩ : ∃ m, n = m + 1 := ⟨n - 1, by omega⟩
    have h1 : s.len = N := by have := ho.len; simp at this; omega
    have h2 : i < N := by omega
    obtain ⟨H', a1, a2, a3, a4, a5⟩ := own_setB ho hp i (by omega) (((q + (i : Int)).tmod 3) == 0)
    obtain ⟨H2, b1, b2, b3, b4, b5⟩ := ih (i + 1) n H' _ (by omega) (by omega) (by simpa using hl) a2 a3 (fun m hm' => by
      by_cases e : m = i
      · subst e; rw [List.getElem?_set_self (by omega)]
      · rw [List.getElem?_set_ne (by omega)]; exact hm m (by omega))
    push_cast at b1
    refine ⟨H2, ?_, b2, b3, fun c x hc h => b4 c x hc (a4 c x hc h), by omega⟩
    have h5 : IntKind.i64.wrap (q + (i : Int) + 1) = q + ((i : Int) + 1) := by rw [wr (by omega) (by omega)]; omega
    simp (disch := omega) only [laws_markBoolS.l0, dt, Bool.and_self, cond_true, Int.toNat_natCast, a1, Option.bind_some, h5, wr (n := (i : Int) + 1), b1]
theorem markBoolS_ok {k : Nat} (hk : 2000000 ≤ k) {H0 H : Hp} {s : Sl} {l : List Bool} {q : Int} (hq : 0 ≤ q) (hq2 : q ≤ 4611686018427387904) (hl : l.length ≤ 1048576) (hp : H0 <+: H) (ho : Own 1 H0 H s (l.map .bool)) :
    ∃ H', callF PP orc k laws_markBoolS.id [.sl 1 s, .int .i64 q] H = some (.int .i64 (q + (l.length : Int)), H') ∧ H0 <+: H' ∧ Own 1 H0 H' s ((markB q l.length).map .bool) ∧ But s.blk H H' ∧ H'.length = H.length := by
  obtain ⟨k, rfl⟩ : ∃ q, k = q + 1 := ⟨k - 1, by omega⟩
  obtain ⟨H', b⟩ := markBoolS_l0 (callF PP orc k) k hl hq hq2 l.length 0 k H l (by omega) (by omega) rfl hp ho (fun m hm => absurd hm (Nat.not_lt_zero _))
  refine ⟨H', ?_⟩
  rw [laws_markBoolS.call]
  simpa [laws_markBoolS.f] using b
theorem heldBoolS_l0 (rec : Rec) (k : Nat) {H : Hp} {s : Sl} {N : Nat} (hN : N ≤ 1048576) {q : Int} (hq : 0 ≤ q) (hq2 : q ≤ 4611686018427387904) (hr : ReadsB H s (markB q N)) :
    ∀ (j i n : Nat), i + j = N → j < n → laws_heldBoolS.l0 rec k n s (q + (i : Int)) i H = some (.int .i64 (q + (N : Int)), H) := by
  have h1 : s.len = N := by have := hr.len; rw [markB_length] at this; exact this
  intro j
  induction j with
  | zero =>
    intro i n hi hn
    obtain ⟨n, rfl⟩ : ∃ m, n = m + 1 := ⟨n - 1, by omega⟩
    have : i = N := by omega
    subst this
    simp (disch := omega) only [laws_heldBoolS.l0, laws_heldBoolS.j1, df, cond_false]
  | succ j ih =>
    intro i n hi hn
    obtain ⟨n, rfl⟩ : ∃ m, n = m + 1 := ⟨n - 1, by omega⟩
    have h2 : i < N := by omega
    have h3 := rdb hr (i := i) (by rw [markB_length]; exact h2)
    rw [List.getD_eq_getElem?_getD, markB_get q N i h2, Option.getD_some] at h3
    have h5 : IntKind.i64.wrap (q + (i : Int) + 1) = q + ((i : Int) + 1) := by rw [wr (by omega) (by omega)]; omega
    have b1 := ih (i + 1) n (by omega) (by omega)
    push_cast at b1
    simp (disch := omega) only [laws_heldBoolS.l0, dt, Bool.and_self, cond_true, cond_false, Int.toNat_natCast, h3, Option.bind_some, beq_self_eq_true, Bool.not_true, h5, wr (n := (i : Int) + 1), b1]
theorem heldBoolS_ok {k : Nat} (hk : 2000000 ≤ k) {H : Hp} {s : Sl} {N : Nat} (hN : N ≤ 1048576) {q : Int} (hq : 0 ≤ q) (hq2 : q ≤ 4611686018427387904) (hr : ReadsB H s (markB q N)) :
    callF PP orc k laws_heldBoolS.id [.sl 1 s, .int .i64 q] H = some (.int .i64 (q + (N : Int)), H) := by
  obtain ⟨k, rfl⟩ : ∃ q, k = q + 1 := ⟨k - 1, by omega⟩
  have b := heldBoolS_l0 (callF PP orc k) k hN hq hq2 hr N 0 k (by omega) (by omega)
  rw [laws_heldBoolS.call]
  simpa [laws_heldBoolS.f] using b
/- Rows of truth values: built, compared, marked, held; and two of them, the edges of a loop. No conditions. -/
/-- A row: its slice, its truth values. -/
structure Rw where
  sl : Sl
  row : List Bool
/-- The slice s reads as the rows rs. -/
structure RdR (H : Hp) (s : Sl) (rs : List Rw) : Prop where
  len : s.len = rs.length
  cel : ∀ i, (h : i < rs.length) → H.cell s.blk (s.off + i) = some (.sl 1 rs[i].sl)
  each : ∀ r ∈ rs, ReadsB H r.sl r.row
/-- Rows of their own, each in a block of its own, in blocks that are new since H0; or none. -/
structure OwR (H0 H : Hp) (s : Sl) (rs : List Rw) : Prop where
  out : (s = Sl.none ∧ rs = []) ∨ (rs ≠ [] ∧ Own 1 H0 H s (rs.map fun r => AV.sl 1 r.sl))
  each : ∀ r ∈ rs, Own 1 H0 H r.sl (r.row.map .bool)
  ne : ∀ r ∈ rs, r.sl.blk ≠ s.blk
  inj : rs.Pairwise fun a b => a.sl.blk ≠ b.sl.blk
theorem OwR.nil (H0 H : Hp) : OwR H0 H Sl.none [] := ⟨.inl ⟨rfl, rfl⟩, fun r h => (by cases h), fun r h => (by cases h), .nil⟩
theorem OwR.pf {H0 H H' : Hp} {s : Sl} {rs : List Rw} (h : OwR H0 H s rs) (g : H <+: H') : OwR H0 H' s rs :=
  ⟨h.out.imp id fun o => ⟨o.1, own_pf o.2 g⟩, fun r hr => own_pf (h.each r hr) g, h.ne, h.inj⟩
theorem OwR.base {H0 H1 H : Hp} {s : Sl} {rs : List Rw} (h : OwR H1 H s rs) (g : H0 <+: H1) : OwR H0 H s rs :=
  ⟨h.out.imp id fun o => ⟨o.1, own_base o.2 g⟩, fun r hr => own_base (h.each r hr) g, h.ne, h.inj⟩
theorem OwR.len {H0 H : Hp} {s : Sl} {rs : List Rw} (h : OwR H0 H s rs) : s.len = rs.length := by
  rcases h.out with ⟨rfl, rfl⟩ | ⟨_, o⟩
  · rfl
  · have := o.len; simpa using this
theorem OwR.rd {H0 H : Hp} {s : Sl} {rs : List Rw} (h : OwR H0 H s rs) : RdR H s rs :=
  ⟨h.len, fun i hi => by
    rcases h.out with ⟨rfl, rfl⟩ | ⟨_, o⟩
    · exact absurd hi (Nat.not_lt_zero _)
    · rw [own_cell o]; simp [hi], fun r hr => own_readsB (h.each r hr)⟩
theorem RdR.pf {H H' : Hp} {s : Sl} {rs : List Rw} (h : RdR H s rs) (g : H <+: H') : RdR H' s rs := ⟨h.len, fun i hi => pf_cell g (h.cel i hi), fun r hr => pf_readsB g (h.each r hr)⟩
theorem own_ltB {sz : Nat} {H0 H : Hp} {s : Sl} {c : List AV} (h : Own sz H0 H s c) : s.blk < H.length := (List.getElem?_eq_some_iff.1 h.get).1
/-- What keeps everything but some blocks keeps rows elsewhere. -/
theorem OwR.keep {H0 H H' : Hp} {s : Sl} {rs : List Rw} (h : OwR H0 H s rs) (S : Nat → Prop) (g : ∀ (c : Nat) (x : Option Blk), ¬ S c → H[c]? = some x → H'[c]? = some x) (h1 : rs ≠ [] → ¬ S s.blk) (h2 : ∀ r ∈ rs, ¬ S r.sl.blk) : OwR H0 H' s rs := by
  refine ⟨?_, fun r hr => ?_, h.ne, h.inj⟩
  · rcases h.out with o | ⟨e, o⟩
    · exact .inl o
    · exact .inr ⟨e, o.nn, o.off, o.blk, g _ _ (h1 e) o.get, o.len⟩
  · have o := h.each r hr
    exact ⟨o.nn, o.off, o.blk, g _ _ (h2 r hr) o.get, o.len⟩
theorem OwR.app {H0 H : Hp} {s : Sl} {rs : List Rw} (h : OwR H0 H s rs) (g : H0 <+: H) (r : Rw) (hr : Own 1 H0 H r.sl (r.row.map .bool)) (h1 : rs ≠ [] → r.sl.blk ≠ s.blk) (h2 : ∀ x ∈ rs, x.sl.blk ≠ r.sl.blk) (hl : rs.length < 1000) :
    ∃ s' H', H.app 1 s 1 [.sl 1 r.sl] = some (s', H') ∧ H0 <+: H' ∧ OwR H0 H' s' (rs ++ [r]) ∧ (∀ (c : Nat) (x : Option Blk), (rs ≠ [] → c ≠ s.blk) → H[c]? = some x → H'[c]? = some x) := by
  have hlen := h.len
  have inj' : (rs ++ [r]).Pairwise fun a b => a.sl.blk ≠ b.sl.blk := List.pairwise_append.2 ⟨h.inj, List.pairwise_singleton _ _, fun a ha b hb => by
    rw [List.mem_singleton] at hb; subst hb; exact h2 a ha⟩
  have hrl := own_ltB hr
  rcases h.out with ⟨rfl, rfl⟩ | ⟨e, o⟩
  · have g' : H <+: H ++ [some (Blk.mk false [AV.sl 1 r.sl])] := (List.prefix_append _ _)
    refine ⟨Sl.mk false H.length 0 1, H ++ [some (Blk.mk false [AV.sl 1 r.sl])], ?_, g.trans g', ⟨.inr ⟨by simp, own_base (own_new 1 H [AV.sl 1 r.sl] 1 rfl) g⟩, fun x hx => ?_, fun x hx => ?_, inj'⟩, fun c x _ hx => pf_get g' hx⟩
    · unfold Hp.app
      rw [if_pos (by simp [Sl.none]), if_neg (by omega), if_pos (show Sl.none.nil = true from rfl)]
    · simp at hx; subst hx; exact own_pf hr g'
    · simp at hx; subst hx; simp only; omega
  · obtain ⟨H', a1, a2, a3, a4, a5⟩ := own_app o g 1 [.sl 1 r.sl] (by omega) (by omega) (by omega) (by omega) rfl
    refine ⟨_, H', a1, a2, ⟨.inr ⟨by simp, by simpa using a3⟩, fun x hx => ?_, fun x hx => ?_, inj'⟩, fun c x hc hx => a4 c x (hc e) hx⟩
    · rcases List.mem_append.1 hx with hx | hx
      · exact a4.own (h.ne x hx) (h.each x hx)
      · rw [List.mem_singleton] at hx; subst hx; exact a4.own (h1 e) hr
    · rcases List.mem_append.1 hx with hx | hx
      · have := own_ltB (h.each x hx); simp only; omega
      · rw [List.mem_singleton] at hx; subst hx; simp only; omega
theorem rds {H : Hp} {s : Sl} {rs : List Rw} (h : RdR H s rs) {i : Nat} (hi : i < rs.length) : ldS 1 H s.blk (s.off + i * 1) = some rs[i].sl := by
  unfold ldS
  rw [Nat.mul_one, h.cel i hi]
  simp [AV.toS]
/-- Rows that are the same. -/
theorem eqBoolSS_l0 {k : Nat} (hk : 2000000 ≤ k) {H : Hp} {s t : Sl} {a b : List Rw} (hs : RdR H s a) (ht : RdR H t b) (he : a.map Rw.row = b.map Rw.row) (hl : a.length ≤ 1000) (hr : ∀ r ∈ a, r.row.length ≤ 1000) :
    ∀ (j i n : Nat), i + j = a.length → j < n → laws_eqBoolSS.l0 (callF PP orc k) k n s t i H = some (.bool true, H) := by
  have h1 := hs.len
  have h2 := ht.len
  have h3 : a.length = b.length := by simpa using congrArg List.length he
  intro j
  induction j with
  | zero =>
    intro i n hi hn
    obtain ⟨n, rfl⟩ : ∃ m, n = m + 1 := ⟨n - 1, by omega⟩
    simp (disch := omega) only [laws_eqBoolSS.l0, df, cond_false]
  | succ j ih =>
    intro i n hi hn
    obtain ⟨n, rfl⟩ : ∃ m, n = m + 1 := ⟨n - 1, by omega⟩
    have i1 : i < a.length := by omega
    have i2 : i < b.length := by omega
    have e1 := rds hs i1
    have e2 := rds ht i2
    have er : a[i].row = b[i].row := by
      have := congrArg (fun l => l[i]?) he
      simpa [List.getElem?_eq_getElem i1, List.getElem?_eq_getElem i2] using this
    have q := hr _ (List.getElem_mem i1)
    have f1 := hs.each _ (List.getElem_mem i1)
    have f2 := ht.each _ (List.getElem_mem i2)
    rw [← er] at f2
    have c := eqBoolS_ok hk f1 f2 (by omega)
    have h5 := ih (i + 1) n (by omega) (by omega)
    push_cast at h5
    simp (disch := omega) only [laws_eqBoolSS.l0, dt, Bool.and_self, cond_true, Int.toNat_natCast, e1, e2, Option.bind_some, c, AV.toB, Bool.not_true, cond_false, wr (n := (i : Int) + 1), h5]
theorem eqBoolSS_ok {k : Nat} (hk : 2000001 ≤ k) {H : Hp} {s t : Sl} {a b : List Rw} (hs : RdR H s a) (ht : RdR H t b) (he : a.map Rw.row = b.map Rw.row) (hl : a.length ≤ 1000) (hr : ∀ r ∈ a, r.row.length ≤ 1000) :
    callF PP orc k laws_eqBoolSS.id [.sl 1 s, .sl 1 t] H = some (.bool true, H) := by
  obtain ⟨k, rfl⟩ : ∃ q, k = q + 1 := ⟨k - 1, by omega⟩
  rw [laws_eqBoolSS.call]
  have h1 := hs.len
  have h2 := ht.len
  have h3 : a.length = b.length := by simpa using congrArg List.length he
  have c := eqBoolSS_l0 (show 2000000 ≤ k by omega) hs ht he hl hr a.length 0 k (by omega) (by omega)
  simp only [Int.natCast_zero] at c
  simp (disch := omega) only [laws_eqBoolSS.f, nf, cond_false, c]
theorem eqLoop_ok {k : Nat} (hk : 2000002 ≤ k) {H : Hp} {n m : Int} {s1 s2 t1 t2 : Sl} {a1 a2 b1 b2 : List Rw} (h1 : RdR H s1 a1) (h2 : RdR H s2 a2) (g1 : RdR H t1 b1) (g2 : RdR H t2 b2) (e1 : a1.map Rw.row = b1.map Rw.row) (e2 : a2.map Rw.row = b2.map Rw.row)
    (l1 : a1.length ≤ 1000) (l2 : a2.length ≤ 1000) (r1 : ∀ r ∈ a1, r.row.length ≤ 1000) (r2 : ∀ r ∈ a2, r.row.length ≤ 1000) :
    callF PP orc k laws_eqLoop.id [.agg [.int .i64 n, .int .i64 m, .sl 1 s1, .sl 1 s2], .agg [.int .i64 n, .int .i64 m, .sl 1 t1, .sl 1 t2]] H = some (.bool true, H) := by
  obtain ⟨k, rfl⟩ : ∃ q, k = q + 1 := ⟨k - 1, by omega⟩
  rw [laws_eqLoop.call]
  have c1 := eqBoolSS_ok (show 2000001 ≤ k by omega) h1 g1 e1 l1 r1
  have c2 := eqBoolSS_ok (show 2000001 ≤ k by omega) h2 g2 e2 l2 r2
  simp only [laws_eqLoop.f, nf, cond_false, c1, c2, Option.bind_some, AV.toB, Bool.not_true]
/-- The rows, marked from q on; the number behind them. -/
def markR : Int → List Rw → List Rw
  | _, [] => []
  | q, r :: rs => ⟨r.sl, markB q r.row.length⟩ :: markR (q + r.row.length) rs
def sumQ : Int → List Rw → Int
  | q, [] => q
  | q, r :: rs => sumQ (q + r.row.length) rs
theorem markR_length : ∀ (q : Int) (rs : List Rw), (markR q rs).length = rs.length
  | _, [] => rfl
  | q, r :: rs => by simp [markR, markR_length]
theorem markR_sl : ∀ (q : Int) (rs : List Rw), (markR q rs).map Rw.sl = rs.map Rw.sl
  | _, [] => rfl
  | q, r :: rs => by simp [markR, markR_sl]
theorem markR_row : ∀ (q : Int) (rs : List Rw), (∀ r ∈ rs, r.row.length ≤ 1000) → ∀ r ∈ markR q rs, r.row.length ≤ 1000
  | _, [], _, r, h => by cases h
  | q, x :: rs, hx, r, h => by
    simp only [markR, List.mem_cons] at h
    rcases h with rfl | h
    · rw [markB_length]; exact hx x (by simp)
    · exact markR_row _ rs (fun y hy => hx y (List.mem_cons_of_mem _ hy)) r h
theorem sumQ_le : ∀ (q : Int) (rs : List Rw), (∀ r ∈ rs, r.row.length ≤ 1000) → q ≤ sumQ q rs ∧ sumQ q rs ≤ q + 1000 * (rs.length : Int)
  | q, [], _ => by simp [sumQ]
  | q, r :: rs, h => by
    have h1 := h r (by simp)
    have := sumQ_le (q + r.row.length) rs (fun y hy => h y (List.mem_cons_of_mem _ hy))
    simp only [sumQ, List.length_cons]
    push_cast
    omega
/-- Rows that bear the marks. -/
def Marked : Int → List Rw → Int → Prop
  | q, [], Q => Q = q
  | q, r :: rs, Q => r.row = markB q r.row.length ∧ Marked (q + r.row.length) rs Q
theorem marked_mark : ∀ (q : Int) (rs : List Rw), Marked q (markR q rs) (sumQ q rs)
  | _, [] => rfl
  | q, r :: rs => by
    refine ⟨by simp [markB_length], ?_⟩
    simp only [markB_length]
    exact marked_mark _ rs
theorem markSS_l0 {k : Nat} (hk : 2000000 ≤ k) {H0 : Hp} {s : Sl} : ∀ (todo done : List Rw) (n : Nat) (H : Hp) (q : Int), OwR H0 H s (done ++ todo) → H0 <+: H → 0 ≤ q → q + 1000 * (todo.length : Int) ≤ 1000000000 → (∀ r ∈ todo, r.row.length ≤ 1000) → (done ++ todo).length ≤ 1000 → todo.length < n →
    ∃ H', laws_markBoolSS.l0 (callF PP orc k) k n s q (done.length : Int) H = some (.int .i64 (sumQ q todo), H') ∧ H0 <+: H' ∧ OwR H0 H' s (done ++ markR q todo) ∧ (∀ (c : Nat) (x : Option Blk), (∀ r ∈ todo, c ≠ r.sl.blk) → H[c]? = some x → H'[c]? = some x)
  | [], done, n, H, q, ho, hp, h0, h1, hr, hl, hn => by
    obtain ⟨n, rfl⟩ : ∃ m, n = m + 1 := ⟨n - 1, by simp at hn; omega⟩
    have hlen := ho.len
    rw [List.append_nil] at hlen
    refine ⟨H, ?_, hp, by simpa [markR] using ho, fun c x _ h => h⟩
    simp (disch := omega) only [laws_markBoolSS.l0, laws_markBoolSS.j1, df, cond_false, sumQ]
  | r :: todo, done, n, H, q, ho, hp, h0, h1, hr, hl, hn => by
    obtain ⟨n, rfl⟩ : ∃ m, n = m + 1 := ⟨n - 1, by simp at hn; omega⟩
    have hlen := ho.len
    simp only [List.length_append, List.length_cons] at hlen hl hn
    simp only [List.length_cons] at h1
    push_cast at h1
    have hrl := hr r (by simp)
    have e1 := rds ho.rd (i := done.length) (by simp)
    rw [List.getElem_append_right (Nat.le_refl _)] at e1
    simp only [Nat.sub_self, List.getElem_cons_zero] at e1
    obtain ⟨H1, a1, a2, a3, a4, a5⟩ := markBoolS_ok hk h0 (by omega) (by omega) hp (ho.each r (by simp))
    obtain ⟨p1, p2, p3⟩ := List.pairwise_append.1 ho.inj
    obtain ⟨p4, p5⟩ := List.pairwise_cons.1 p2
    have hne := ho.ne
    have ho1 : OwR H0 H1 s ((done ++ [⟨r.sl, markB q r.row.length⟩]) ++ todo) := by
      have el : ((done ++ [Rw.mk r.sl (markB q r.row.length)]) ++ todo).map (fun r => AV.sl 1 r.sl) = (done ++ r :: todo).map (fun r => AV.sl 1 r.sl) := by simp
      refine ⟨?_, fun x hx => ?_, fun x hx => ?_, ?_⟩
      · rcases ho.out with ⟨_, h⟩ | ⟨_, o⟩
        · simp at h
        · right
          refine ⟨by simp, ?_⟩
          rw [el]
          exact a4.own (Ne.symm (hne r (by simp))) o
      · simp only [List.append_assoc, List.mem_append, List.mem_singleton] at hx
        rcases hx with hx | rfl | hx
        · exact a4.own (p3 x hx r (by simp)) (ho.each x (by simp [hx]))
        · exact a3
        · exact a4.own (Ne.symm (p4 x hx)) (ho.each x (by simp [hx]))
      · simp only [List.append_assoc, List.mem_append, List.mem_singleton] at hx
        rcases hx with hx | rfl | hx
        · exact hne x (by simp [hx])
        · exact hne r (by simp)
        · exact hne x (by simp [hx])
      · rw [List.append_assoc, List.singleton_append]
        refine List.pairwise_append.2 ⟨p1, List.pairwise_cons.2 ⟨fun x hx => p4 x hx, p5⟩, fun x hx y hy => ?_⟩
        rcases List.mem_cons.1 hy with rfl | hy
        · exact p3 x hx r (by simp)
        · exact p3 x hx y (by simp [hy])
    obtain ⟨H', b1, b2, b3, b4⟩ := markSS_l0 hk todo (done ++ [⟨r.sl, markB q r.row.length⟩]) n H1 (q + r.row.length) ho1 a2 (by omega) (by omega) (fun y hy => hr y (List.mem_cons_of_mem _ hy)) (by simp; omega) (by omega)
    simp only [List.length_append, List.length_cons, List.length_nil] at b1
    push_cast at b1
    refine ⟨H', ?_, b2, by simpa [markR] using b3, fun c x hc h => b4 c x (fun y hy => hc y (List.mem_cons_of_mem _ hy)) (a4 c x (hc r (by simp)) h)⟩
    simp (disch := omega) only [laws_markBoolSS.l0, dt, Bool.and_self, cond_true, Int.toNat_natCast, e1, Option.bind_some, a1, AV.toI, if_true, wr (n := (done.length : Int) + 1), b1, sumQ]
theorem markBoolSS_ok {k : Nat} (hk : 2000001 ≤ k) {H0 H : Hp} {s : Sl} {rs : List Rw} {q : Int} (ho : OwR H0 H s rs) (hp : H0 <+: H) (h0 : 0 ≤ q) (h1 : q ≤ 100000000) (hr : ∀ r ∈ rs, r.row.length ≤ 1000) (hl : rs.length ≤ 1000) :
    ∃ H', callF PP orc k laws_markBoolSS.id [.sl 1 s, .int .i64 q] H = some (.int .i64 (sumQ q rs), H') ∧ H0 <+: H' ∧ OwR H0 H' s (markR q rs) ∧ (∀ (c : Nat) (x : Option Blk), (∀ r ∈ rs, c ≠ r.sl.blk) → H[c]? = some x → H'[c]? = some x) := by
  obtain ⟨k, rfl⟩ : ∃ q, k = q + 1 := ⟨k - 1, by omega⟩
  obtain ⟨H', b⟩ := markSS_l0 (show 2000000 ≤ k by omega) rs [] k H q ho hp h0 (by omega) hr (by simpa using hl) (by omega)
  refine ⟨H', ?_⟩
  rw [laws_markBoolSS.call]
  simpa [laws_markBoolSS.f] using b
/-- Two lists of rows that share no block. -/
structure Apt (sa sd : Sl) (ra rd : List Rw) : Prop where
  rr : ∀ a ∈ ra, ∀ d ∈ rd, a.sl.blk ≠ d.sl.blk
  rs : ∀ a ∈ ra, rd ≠ [] → a.sl.blk ≠ sd.blk
  sr : ∀ d ∈ rd, ra ≠ [] → d.sl.blk ≠ sa.blk
theorem markLoop_ok {k : Nat} (hk : 2000002 ≤ k) {H0 H : Hp} {n m : Int} {sa sd : Sl} {ra rd : List Rw} (ha : OwR H0 H sa ra) (hd : OwR H0 H sd rd) (hx : Apt sa sd ra rd) (hp : H0 <+: H) (r1 : ∀ r ∈ ra, r.row.length ≤ 1000) (r2 : ∀ r ∈ rd, r.row.length ≤ 1000) (l1 : ra.length ≤ 1000) (l2 : rd.length ≤ 1000) :
    ∃ H', callF PP orc k laws_markLoop.id [.agg [.int .i64 n, .int .i64 m, .sl 1 sa, .sl 1 sd], .int .i64 1] H = some (.int .i64 (sumQ (sumQ 1 ra) rd), H') ∧ H0 <+: H' ∧ RdR H' sa (markR 1 ra) ∧ RdR H' sd (markR (sumQ 1 ra) rd) := by
  obtain ⟨k, rfl⟩ : ∃ q, k = q + 1 := ⟨k - 1, by omega⟩
  rw [laws_markLoop.call]
  obtain ⟨H1, a1, a2, a3, a4⟩ := markBoolSS_ok (show 2000001 ≤ k by omega) (q := 1) ha hp (by omega) (by omega) r1 l1
  have hs := sumQ_le 1 ra r1
  have hd1 : OwR H0 H1 sd rd := hd.keep (fun c => ∃ r ∈ ra, c = r.sl.blk) (fun c x hc h => a4 c x (fun r hr e => hc ⟨r, hr, e⟩) h) (fun e ⟨r, hr, q⟩ => hx.rs r hr e q.symm) (fun d hdd ⟨r, hr, q⟩ => hx.rr r hr d hdd q.symm)
  obtain ⟨H2, b1, b2, b3, b4⟩ := markBoolSS_ok (show 2000001 ≤ k by omega) (q := sumQ 1 ra) hd1 a2 (by omega) (by omega) r2 l2
  have msl : ∀ r ∈ markR 1 ra, ∃ a ∈ ra, a.sl = r.sl := fun r hr => by
    have h : r.sl ∈ (markR 1 ra).map Rw.sl := List.mem_map_of_mem hr
    rw [markR_sl] at h
    obtain ⟨a, h1, h2⟩ := List.mem_map.1 h
    exact ⟨a, h1, h2⟩
  have ha2 : OwR H0 H2 sa (markR 1 ra) := a3.keep (fun c => ∃ r ∈ rd, c = r.sl.blk) (fun c x hc h => b4 c x (fun r hr e => hc ⟨r, hr, e⟩) h) (fun e ⟨r, hr, q⟩ => hx.sr r hr (fun e2 => e (by rw [e2]; rfl)) q.symm) (fun d hdd ⟨r, hr, q⟩ => by
    obtain ⟨a, h1, h2⟩ := msl d hdd
    rw [← h2] at q
    exact hx.rr a h1 r hr q)
  refine ⟨H2, ?_, b2, ha2.rd, b3.rd⟩
  simp only [laws_markLoop.f, a1, b1, Option.bind_some, AV.toI, if_true]
theorem Marked.le : ∀ {rs : List Rw} {q Q : Int}, Marked q rs Q → q ≤ Q
  | [], _, _, h => by simp only [Marked] at h; omega
  | r :: rs, q, Q, h => by
    have := Marked.le h.2
    omega
theorem heldSS_l0 {k : Nat} (hk : 2000000 ≤ k) {H : Hp} {s : Sl} {rs : List Rw} (hs : RdR H s rs) (hr : ∀ r ∈ rs, r.row.length ≤ 1000) (hl : rs.length ≤ 1000) {Q : Int} (hQ : Q ≤ 1000000000) :
    ∀ (j i n : Nat) (q : Int), i + j = rs.length → j < n → 0 ≤ q → Marked q (rs.drop i) Q → laws_heldBoolSS.l0 (callF PP orc k) k n s q i H = some (.int .i64 Q, H) := by
  have h1 := hs.len
  intro j
  induction j with
  | zero =>
    intro i n q hi hn hq hm
    obtain ⟨n, rfl⟩ : ∃ m, n = m + 1 := ⟨n - 1, by omega⟩
    rw [List.drop_eq_nil_of_le (by omega)] at hm
    simp only [Marked] at hm
    subst hm
    simp (disch := omega) only [laws_heldBoolSS.l0, laws_heldBoolSS.j1, df, cond_false]
  | succ j ih =>
    intro i n q hi hn hq hm
    obtain ⟨n, rfl⟩ : ∃ m, n = m + 1 := ⟨n - 1, by omega⟩
    have i1 : i < rs.length := by omega
    rw [List.drop_eq_getElem_cons i1] at hm
    obtain ⟨m1, m2⟩ := hm
    have e1 := rds hs i1
    have q1 := hr _ (List.getElem_mem i1)
    have q2 := m2.le
    have f1 := hs.each _ (List.getElem_mem i1)
    rw [m1] at f1
    have c := heldBoolS_ok hk (N := rs[i].row.length) (by omega) hq (by omega) f1
    have b1 := ih (i + 1) n _ (by omega) (by omega) (by omega) m2
    push_cast at b1
    simp (disch := omega) only [laws_heldBoolSS.l0, dt, df, Bool.and_self, cond_true, cond_false, Int.toNat_natCast, e1, Option.bind_some, c, AV.toI, if_true, wr (n := (i : Int) + 1), b1]
theorem heldBoolSS_ok {k : Nat} (hk : 2000001 ≤ k) {H : Hp} {s : Sl} {rs : List Rw} (hs : RdR H s rs) (hr : ∀ r ∈ rs, r.row.length ≤ 1000) (hl : rs.length ≤ 1000) {q Q : Int} (hQ : Q ≤ 1000000000) (hq : 0 ≤ q) (hm : Marked q rs Q) :
    callF PP orc k laws_heldBoolSS.id [.sl 1 s, .int .i64 q] H = some (.int .i64 Q, H) := by
  obtain ⟨k, rfl⟩ : ∃ q, k = q + 1 := ⟨k - 1, by omega⟩
  have b := heldSS_l0 (show 2000000 ≤ k by omega) hs hr hl hQ rs.length 0 k q (by omega) (by omega) hq hm
  rw [laws_heldBoolSS.call]
  simpa [laws_heldBoolSS.f] using b
theorem heldLoop_ok {k : Nat} (hk : 2000002 ≤ k) {H : Hp} {n m : Int} {sa sd : Sl} {ra rd : List Rw} (ha : RdR H sa (markR 1 ra)) (hd : RdR H sd (markR (sumQ 1 ra) rd)) (r1 : ∀ r ∈ ra, r.row.length ≤ 1000) (r2 : ∀ r ∈ rd, r.row.length ≤ 1000) (l1 : ra.length ≤ 1000) (l2 : rd.length ≤ 1000) :
    callF PP orc k laws_heldLoop.id [.agg [.int .i64 n, .int .i64 m, .sl 1 sa, .sl 1 sd], .int .i64 1] H = some (.int .i64 (sumQ (sumQ 1 ra) rd), H) := by
  obtain ⟨k, rfl⟩ : ∃ q, k = q + 1 := ⟨k - 1, by omega⟩
  rw [laws_heldLoop.call]
  have h1 := sumQ_le 1 ra r1
  have h2 := sumQ_le (sumQ 1 ra) rd r2
  have c1 := heldBoolSS_ok (show 2000001 ≤ k by omega) ha (markR_row _ _ r1) (by rw [markR_length]; exact l1) (by omega) (show (0 : Int) ≤ 1 by omega) (marked_mark 1 ra)
  have c2 := heldBoolSS_ok (show 2000001 ≤ k by omega) hd (markR_row _ _ r2) (by rw [markR_length]; exact l2) (by omega) (show (0 : Int) ≤ sumQ 1 ra by omega) (marked_mark (sumQ 1 ra) rd)
  simp (disch := omega) only [laws_heldLoop.f, c1, c2, df, cond_false, Option.bind_some, AV.toI, if_true]
/- The edges around cells: both sides. No conditions. -/
theorem l1In_ok {k : Nat} (hk : 1 ≤ k) (a lo hi : Int) (H : Hp) : callF PP orc k spec_l1In.id [.int .i64 a, .int .i64 lo, .int .i64 hi] H = some (.bool (decide (lo ≤ a ∧ a ≤ hi)), H) := by
  obtain ⟨k, rfl⟩ : ∃ q, k = q + 1 := ⟨k - 1, by omega⟩
  rw [spec_l1In.call]
  by_cases h : a ≥ lo
  · have h' : lo ≤ a := h
    simp [spec_l1In.f, h']
  · have h' : ¬ lo ≤ a := h
    simp [spec_l1In.f, h']
/-- Is a cell inside? -/
def inV (R C : Nat) (l : List Bool) (r c : Int) : Bool := if 0 ≤ r ∧ r < (R : Int) ∧ 0 ≤ c ∧ c < (C : Int) then l.getD (r * (C : Int) + c).toNat false else false
def fA (R C : Nat) (l : List Bool) (r c : Nat) : Bool := !(inV R C l ((r : Int) - 1) c == inV R C l r c)
def fD (R C : Nat) (l : List Bool) (c r : Nat) : Bool := !(inV R C l r ((c : Int) - 1) == inV R C l r c)
def rowA (R C : Nat) (l : List Bool) (r : Nat) : List Bool := (List.range C).map (fA R C l r)
def rowD (R C : Nat) (l : List Bool) (c : Nat) : List Bool := (List.range R).map (fD R C l c)
theorem inV_in {R C : Nat} {l : List Bool} {r c : Int} (h : 0 ≤ r ∧ r < (R : Int) ∧ 0 ≤ c ∧ c < (C : Int)) : inV R C l r c = l.getD (r * (C : Int) + c).toNat false := if_pos h
theorem inV_out {R C : Nat} {l : List Bool} {r c : Int} (h : ¬ (0 ≤ r ∧ r < (R : Int) ∧ 0 ≤ c ∧ c < (C : Int))) : inV R C l r c = false := if_neg h
theorem idx {R C : Nat} {r c : Int} (hR : 1 ≤ R ∧ R ≤ 4) (hC : 1 ≤ C ∧ C ≤ 4) (h : 0 ≤ r ∧ r < (R : Int) ∧ 0 ≤ c ∧ c < (C : Int)) : 0 ≤ r * (C : Int) ∧ r * (C : Int) ≤ 16 ∧ 0 ≤ r * (C : Int) + c ∧ r * (C : Int) + c < ((R * C : Nat) : Int) := by
  have : C = 1 ∨ C = 2 ∨ C = 3 ∨ C = 4 := by omega
  rcases this with rfl | rfl | rfl | rfl <;> push_cast <;> omega
theorem rng {f : Nat → Bool} (c : Nat) : ((List.range c).map f ++ [f c]) = (List.range (c + 1)).map f := by rw [List.range_succ, List.map_append]; rfl
theorem rngL {f : Nat → List Bool} (c : Nat) : ((List.range c).map f ++ [f c]) = (List.range (c + 1)).map f := by rw [List.range_succ, List.map_append]; rfl
/-- What the program's closure reads. -/
structure Box (H : Hp) (R C : Nat) (l : List Bool) (s : Sl) (p q u : Nat) : Prop where
  rr : ldI .i64 H p 0 = some (R : Int)
  cc : ldI .i64 H q 0 = some (C : Int)
  ss : ldS 1 H u 0 = some s
  ll : ReadsB H s l
  nn : l.length = R * C
  R4 : 1 ≤ R ∧ R ≤ 4
  C4 : 1 ≤ C ∧ C ≤ 4
theorem pf_ldI {H H' : Hp} (g : H <+: H') {k : IntKind} {b o : Nat} {n : Int} (h : ldI k H b o = some n) : ldI k H' b o = some n := by
  unfold ldI at h ⊢
  obtain ⟨v, h1, h2⟩ := Option.bind_eq_some_iff.1 h
  rw [pf_cell g h1]; exact h2
theorem pf_ldS {H H' : Hp} (g : H <+: H') {z b o : Nat} {n : Sl} (h : ldS z H b o = some n) : ldS z H' b o = some n := by
  unfold ldS at h ⊢
  obtain ⟨v, h1, h2⟩ := Option.bind_eq_some_iff.1 h
  rw [pf_cell g h1]; exact h2
theorem Box.pf {H H' : Hp} {R C : Nat} {l : List Bool} {s : Sl} {p q u : Nat} (h : Box H R C l s p q u) (g : H <+: H') : Box H' R C l s p q u := ⟨pf_ldI g h.rr, pf_ldI g h.cc, pf_ldS g h.ss, pf_readsB g h.ll, h.nn, h.R4, h.C4⟩
theorem in_ok {k : Nat} (hk : 1 ≤ k) {H : Hp} {R C : Nat} {l : List Bool} {s : Sl} {p q u : Nat} (h : Box H R C l s p q u) (r c : Int) :
    callF PP orc k impl_LoopAround_1.id [.int .i64 r, .int .i64 c, .ptr p 0, .ptr q 0, .ptr u 0] H = some (.bool (inV R C l r c), H) := by
  obtain ⟨k, rfl⟩ : ∃ q, k = q + 1 := ⟨k - 1, by omega⟩
  rw [impl_LoopAround_1.call]
  by_cases h1 : r ≥ 0
  · by_cases h2 : r < (R : Int)
    · by_cases h3 : c ≥ 0
      · by_cases h4 : c < (C : Int)
        · have hi : 0 ≤ r ∧ r < (R : Int) ∧ 0 ≤ c ∧ c < (C : Int) := ⟨h1, h2, h3, h4⟩
          obtain ⟨i1, i2, i3, i4⟩ := idx h.R4 h.C4 hi
          rw [← h.nn] at i4
          have hl := h.ll.len
          have e := rdb h.ll (i := (r * (C : Int) + c).toNat) (by omega)
          have w1 : IntKind.i64.wrap (r * (C : Int)) = r * (C : Int) := wr (by omega) (by omega)
          have w2 : IntKind.i64.wrap (r * (C : Int) + c) = r * (C : Int) + c := wr (by have := h.C4; omega) (by have := h.C4; omega)
          have i5 : r * (C : Int) + c < (s.len : Int) := by omega
          rw [inV_in hi]
          simp only [impl_LoopAround_1.f, dt h1, dt h2, dt h3, dt h4, dt i3, dt i5, Bool.and_self, cond_true, h.rr, h.cc, h.ss, Option.bind_some, w1, w2, e]
        · rw [inV_out (fun x => h4 x.2.2.2)]
          simp only [impl_LoopAround_1.f, dt h1, dt h2, dt h3, df h4, cond_true, cond_false, h.rr, h.cc, Option.bind_some]
      · rw [inV_out (fun x => h3 x.2.2.1)]
        simp only [impl_LoopAround_1.f, dt h1, dt h2, df h3, cond_true, cond_false, h.rr, Option.bind_some]
    · rw [inV_out (fun x => h2 x.2.1)]
      simp only [impl_LoopAround_1.f, dt h1, df h2, cond_true, cond_false, h.rr, Option.bind_some]
  · rw [inV_out (fun x => h1 x.1)]
    simp only [impl_LoopAround_1.f, df h1, cond_false]
/-! ### The program's side -/
theorem iA_l3 {k : Nat} (hk : 1 ≤ k) {Hs : Hp} {R C : Nat} {l : List Bool} {s : Sl} {p q u : Nat} (hb : Box Hs R C l s p q u) {r : Nat} (hr : r ≤ R) :
    ∀ (j c n : Nat) (H : Hp) (t : Sl), c + j = C → j < n → Hs <+: H → Own 1 Hs H t (((List.range c).map (fA R C l r)).map .bool) →
      ∃ t' H', (∀ L2 x43 x44 y0 y1 y2 y3 z0 z1 z2 z3, impl_LoopAround.l3 (callF PP orc k) k L2 n p 0 q 0 p 0 q 0 u 0 (r : Int) t x43 x44 (C : Int) (c : Int) y0 y1 y2 y3 z0 z1 z2 z3 H = impl_LoopAround.j5 (callF PP orc k) k L2 p 0 q 0 p 0 q 0 u 0 t' x43 x44 y0 y1 y2 y3 z0 z1 z2 z3 H') ∧ Hs <+: H' ∧ Own 1 Hs H' t' ((rowA R C l r).map .bool) := by
  have hR := hb.R4
  have hC := hb.C4
  intro j
  induction j with
  | zero =>
    intro c n H t hc hn hp ho
    obtain ⟨n, rfl⟩ : ∃ m, n = m + 1 := ⟨n - 1, by omega⟩
    have e : c = C := by omega
    subst e
    refine ⟨t, H, fun L2 x43 x44 y0 y1 y2 y3 z0 z1 z2 z3 => ?_, hp, ho⟩
    simp (disch := omega) only [impl_LoopAround.l3, df, cond_false]
  | succ j ih =>
    intro c n H t hc hn hp ho
    obtain ⟨n, rfl⟩ : ∃ m, n = m + 1 := ⟨n - 1, by omega⟩
    have c1 := in_ok hk (hb.pf hp) ((r : Int) - 1) (c : Int)
    have c2 := in_ok hk (hb.pf hp) (r : Int) (c : Int)
    obtain ⟨t1, H1, a1, a2, a3⟩ := own_appB ho hp (fA R C l r c) (by simp; omega)
    rw [rng] at a3
    obtain ⟨t', H', b1, b2, b3⟩ := ih (c + 1) n H1 t1 (by omega) (by omega) a2 a3
    refine ⟨t', H', fun L2 x43 x44 y0 y1 y2 y3 z0 z1 z2 z3 => ?_, b2, b3⟩
    have b := b1 L2 x43 x44 y0 y1 y2 y3 z0 z1 z2 z3
    push_cast at b
    unfold fA at a1
    simp (disch := omega) only [impl_LoopAround.l3, dt, cond_true, wr (n := (r : Int) - 1), c1, c2, Option.bind_some, AV.toB, a1, wr (n := (c : Int) + 1), b]
theorem iA_l2 {k : Nat} (hk : 2000000 ≤ k) {B : Hp} {R C : Nat} {l : List Bool} {s : Sl} {p q u : Nat} (hb : Box B R C l s p q u) :
    ∀ (j r n : Nat) (H : Hp) (t : Sl) (rs : List Rw), r + j = R + 1 → j < n → B <+: H → OwR B H t rs → rs.map Rw.row = (List.range r).map (rowA R C l) →
      ∃ t' rs' H', (∀ y0 y1 y2 y3, impl_LoopAround.l2 (callF PP orc k) k n p 0 q 0 p 0 q 0 u 0 ((R : Int) + 1) (r : Int) y0 y1 y2 y3 (R : Int) (C : Int) t Sl.none H = impl_LoopAround.j4 (callF PP orc k) k p 0 q 0 p 0 q 0 u 0 y0 y1 y2 y3 (R : Int) (C : Int) t' Sl.none H') ∧ B <+: H' ∧ OwR B H' t' rs' ∧ rs'.map Rw.row = (List.range (R + 1)).map (rowA R C l) := by
  have hR := hb.R4
  have hC := hb.C4
  intro j
  induction j with
  | zero =>
    intro r n H t rs hr hn hp ho he
    obtain ⟨n, rfl⟩ : ∃ m, n = m + 1 := ⟨n - 1, by omega⟩
    have e : r = R + 1 := by omega
    subst e
    refine ⟨t, rs, H, fun y0 y1 y2 y3 => ?_, hp, ho, he⟩
    push_cast
    simp (disch := omega) only [impl_LoopAround.l2, df, cond_false]
  | succ j ih =>
    intro r n H t rs hr hn hp ho he
    obtain ⟨n, rfl⟩ : ∃ m, n = m + 1 := ⟨n - 1, by omega⟩
    have hlen : rs.length = r := by simpa using congrArg List.length he
    have g0 : H <+: H ++ [some (Blk.mk false [])] := (List.prefix_append _ _)
    have hc := pf_ldI (hp.trans g0) hb.cc
    obtain ⟨t1, H1, a1, a2, a3⟩ := iA_l3 (show 1 ≤ k by omega) (hb.pf hp) (r := r) (by omega) C 0 k _ (Sl.mk false H.length 0 0) (by omega) (by omega) g0 (own_new 1 H [] 0 rfl)
    have hold : ∀ x ∈ rs, x.sl.blk < H.length := fun x hx => own_ltB (ho.each x hx)
    have hnew := a3.blk
    obtain ⟨t2, H2, b1, b2, b3, _⟩ := (ho.pf a2).app (hp.trans a2) ⟨t1, rowA R C l r⟩ (own_base a3 hp) (fun e => by
      rcases ho.out with ⟨_, h⟩ | ⟨_, o⟩
      · exact absurd h e
      · have := own_ltB o; simp only; omega) (fun x hx => by have := hold x hx; simp only; omega) (by omega)
    obtain ⟨t', rs', H', d1, d2, d3, d4⟩ := ih (r + 1) n H2 t2 _ (by omega) (by omega) b2 b3 (by rw [List.map_append, he, ← rngL]; rfl)
    refine ⟨t', rs', H', fun y0 y1 y2 y3 => ?_, d2, d3, d4⟩
    have d := d1 y0 y1 y2 y3
    have a := a1 (impl_LoopAround.l2 (callF PP orc k) k n) ((R : Int) + 1) r y0 y1 y2 y3 R C t Sl.none
    simp only [Int.natCast_zero] at a
    push_cast at d
    simp (disch := omega) only [impl_LoopAround.l2, dt, cond_true, hc, Option.bind_some, a, impl_LoopAround.j5, impl_LoopAround.j7, b1, wr (n := (r : Int) + 1), d]
theorem iD_l8 {k : Nat} (hk : 1 ≤ k) {Hs : Hp} {R C : Nat} {l : List Bool} {s : Sl} {p q u : Nat} (hb : Box Hs R C l s p q u) {c : Nat} (hc : c ≤ C) :
    ∀ (j r n : Nat) (H : Hp) (t : Sl), r + j = R → j < n → Hs <+: H → Own 1 Hs H t (((List.range r).map (fD R C l c)).map .bool) →
      ∃ t' H', (∀ L2 x43 x44 y0 y1 y2 y3 z0 z1 z2 z3, impl_LoopAround.l8 (callF PP orc k) k L2 n p 0 p 0 q 0 u 0 (c : Int) t x43 x44 (R : Int) (r : Int) y0 y1 y2 y3 z0 z1 z2 z3 H = impl_LoopAround.j10 (callF PP orc k) k L2 p 0 p 0 q 0 u 0 t' x43 x44 y0 y1 y2 y3 z0 z1 z2 z3 H') ∧ Hs <+: H' ∧ Own 1 Hs H' t' ((rowD R C l c).map .bool) := by
  have hR := hb.R4
  have hC := hb.C4
  intro j
  induction j with
  | zero =>
    intro r n H t hr hn hp ho
    obtain ⟨n, rfl⟩ : ∃ m, n = m + 1 := ⟨n - 1, by omega⟩
    have e : r = R := by omega
    subst e
    refine ⟨t, H, fun L2 x43 x44 y0 y1 y2 y3 z0 z1 z2 z3 => ?_, hp, ho⟩
    simp (disch := omega) only [impl_LoopAround.l8, df, cond_false]
  | succ j ih =>
    intro r n H t hr hn hp ho
    obtain ⟨n, rfl⟩ : ∃ m, n = m + 1 := ⟨n - 1, by omega⟩
    have c1 := in_ok hk (hb.pf hp) (r : Int) ((c : Int) - 1)
    have c2 := in_ok hk (hb.pf hp) (r : Int) (c : Int)
    obtain ⟨t1, H1, a1, a2, a3⟩ := own_appB ho hp (fD R C l c r) (by simp; omega)
    rw [rng] at a3
    obtain ⟨t', H', b1, b2, b3⟩ := ih (r + 1) n H1 t1 (by omega) (by omega) a2 a3
    refine ⟨t', H', fun L2 x43 x44 y0 y1 y2 y3 z0 z1 z2 z3 => ?_, b2, b3⟩
    have b := b1 L2 x43 x44 y0 y1 y2 y3 z0 z1 z2 z3
    push_cast at b
    unfold fD at a1
    simp (disch := omega) only [impl_LoopAround.l8, dt, cond_true, wr (n := (c : Int) - 1), c1, c2, Option.bind_some, AV.toB, a1, wr (n := (r : Int) + 1), b]
theorem iD_l6 {k : Nat} (hk : 2000000 ≤ k) {B : Hp} {R C : Nat} {l : List Bool} {s sa : Sl} {p q u : Nat} (hb : Box B R C l s p q u) :
    ∀ (j c n : Nat) (H : Hp) (t : Sl) (rs : List Rw), c + j = C + 1 → j < n → B <+: H → OwR B H t rs → rs.map Rw.row = (List.range c).map (rowD R C l) →
      ∃ t' rs' H', (∀ y0 y1 y2 y3, impl_LoopAround.l6 (callF PP orc k) k n p 0 p 0 q 0 u 0 ((C : Int) + 1) (c : Int) y0 y1 y2 y3 (R : Int) (C : Int) sa t H = some (.agg [.int .i64 (R : Int), .int .i64 (C : Int), .sl 1 sa, .sl 1 t'], H')) ∧ B <+: H' ∧ OwR B H' t' rs' ∧ rs'.map Rw.row = (List.range (C + 1)).map (rowD R C l) := by
  have hR := hb.R4
  have hC := hb.C4
  intro j
  induction j with
  | zero =>
    intro c n H t rs hc hn hp ho he
    obtain ⟨n, rfl⟩ : ∃ m, n = m + 1 := ⟨n - 1, by omega⟩
    have e : c = C + 1 := by omega
    subst e
    refine ⟨t, rs, H, fun y0 y1 y2 y3 => ?_, hp, ho, he⟩
    push_cast
    simp (disch := omega) only [impl_LoopAround.l6, impl_LoopAround.j9, df, cond_false]
  | succ j ih =>
    intro c n H t rs hc hn hp ho he
    obtain ⟨n, rfl⟩ : ∃ m, n = m + 1 := ⟨n - 1, by omega⟩
    have hlen : rs.length = c := by simpa using congrArg List.length he
    have g0 : H <+: H ++ [some (Blk.mk false [])] := (List.prefix_append _ _)
    have hcc := pf_ldI (hp.trans g0) hb.rr
    obtain ⟨t1, H1, a1, a2, a3⟩ := iD_l8 (show 1 ≤ k by omega) (hb.pf hp) (c := c) (by omega) R 0 k _ (Sl.mk false H.length 0 0) (by omega) (by omega) g0 (own_new 1 H [] 0 rfl)
    have hold : ∀ x ∈ rs, x.sl.blk < H.length := fun x hx => own_ltB (ho.each x hx)
    have hnew := a3.blk
    obtain ⟨t2, H2, b1, b2, b3, _⟩ := (ho.pf a2).app (hp.trans a2) ⟨t1, rowD R C l c⟩ (own_base a3 hp) (fun e => by
      rcases ho.out with ⟨_, h⟩ | ⟨_, o⟩
      · exact absurd h e
      · have := own_ltB o; simp only; omega) (fun x hx => by have := hold x hx; simp only; omega) (by omega)
    obtain ⟨t', rs', H', d1, d2, d3, d4⟩ := ih (c + 1) n H2 t2 _ (by omega) (by omega) b2 b3 (by rw [List.map_append, he, ← rngL]; rfl)
    refine ⟨t', rs', H', fun y0 y1 y2 y3 => ?_, d2, d3, d4⟩
    have d := d1 y0 y1 y2 y3
    have a := a1 (impl_LoopAround.l6 (callF PP orc k) k n) ((C : Int) + 1) c y0 y1 y2 y3 R C sa t
    simp only [Int.natCast_zero] at a
    push_cast at d
    simp (disch := omega) only [impl_LoopAround.l6, dt, cond_true, hcc, Option.bind_some, a, impl_LoopAround.j10, impl_LoopAround.j11, b1, wr (n := (c : Int) + 1), d]
/-- Are the arguments right? -/
def okA (a b : Int) (l : List Bool) : Prop := (1 ≤ a ∧ a ≤ 4) ∧ (1 ≤ b ∧ b ≤ 4) ∧ (l.length : Int) = a * b
instance (a b : Int) (l : List Bool) : Decidable (okA a b l) := by unfold okA; infer_instance
/-- The loop: its size, its edges. -/
def arV (a b : Int) (l : List Bool) : Int × Int × List (List Bool) × List (List Bool) :=
  if okA a b l then (a, b, (List.range (a.toNat + 1)).map (rowA a.toNat b.toNat l), (List.range (b.toNat + 1)).map (rowD a.toNat b.toNat l)) else (0, 0, [], [])
/-- A loop that a call gives. -/
def Gives (H : Hp) (v : Int × Int × List (List Bool) × List (List Bool)) (r : An) : Prop :=
  ∃ sa sd ra rd H', r = some (.agg [.int .i64 v.1, .int .i64 v.2.1, .sl 1 sa, .sl 1 sd], H') ∧ H <+: H' ∧ OwR H H' sa ra ∧ OwR H H' sd rd ∧ Apt sa sd ra rd ∧ ra.map Rw.row = v.2.2.1 ∧ rd.map Rw.row = v.2.2.2
theorem gives_none {H : Hp} : Gives H (0, 0, [], []) (some (.agg [.int .i64 0, .int .i64 0, .sl 1 Sl.none, .sl 1 Sl.none], H)) :=
  ⟨Sl.none, Sl.none, [], [], H, rfl, (List.prefix_refl _), OwR.nil _ _, OwR.nil _ _, ⟨fun a h => (by cases h), fun a h => (by cases h), fun a h => (by cases h)⟩, rfl, rfl⟩
/-- Lists of which one was whole before the other was begun share no block. -/
theorem apt_of {B H1 H2 : Hp} {sa sd : Sl} {ra rd : List Rw} (ha : OwR B H1 sa ra) (hd : OwR H1 H2 sd rd) : Apt sa sd ra rd := by
  have a1 : ∀ a ∈ ra, a.sl.blk < H1.length := fun a h => own_ltB (ha.each a h)
  have d1 : ∀ d ∈ rd, H1.length ≤ d.sl.blk := fun d h => (hd.each d h).blk
  refine ⟨fun a h d h' => by have := a1 a h; have := d1 d h'; omega, fun a h e => ?_, fun d h e => ?_⟩
  · rcases hd.out with ⟨_, q⟩ | ⟨_, o⟩
    · exact absurd q e
    · have := a1 a h; have := o.blk; omega
  · rcases ha.out with ⟨_, q⟩ | ⟨_, o⟩
    · exact absurd q e
    · have := d1 d h; have := own_ltB o; omega
theorem prodW {R C : Nat} (hR : 1 ≤ R ∧ R ≤ 4) (hC : 1 ≤ C ∧ C ≤ 4) : IntKind.i64.wrap ((R : Int) * (C : Int)) = ((R * C : Nat) : Int) ∧ R * C ≤ 16 := by
  have : C = 1 ∨ C = 2 ∨ C = 3 ∨ C = 4 := by omega
  rcases this with rfl | rfl | rfl | rfl <;> refine ⟨?_, by omega⟩ <;> push_cast <;> exact wr (by omega) (by omega)
theorem arV_no {a b : Int} {l : List Bool} (h : ¬ okA a b l) : arV a b l = (0, 0, [], []) := if_neg h
theorem arV_yes {R C : Nat} {l : List Bool} (h : okA (R : Int) (C : Int) l) : arV (R : Int) (C : Int) l = ((R : Int), (C : Int), (List.range (R + 1)).map (rowA R C l), (List.range (C + 1)).map (rowD R C l)) := by
  unfold arV; rw [if_pos h]; rfl
theorem implAround_ok {k : Nat} (hk : 2000001 ≤ k) {H : Hp} {s : Sl} {l : List Bool} (a b : Int) (hs : ReadsB H s l) :
    Gives H (arV a b l) (callF PP orc k impl_LoopAround.id [.int .i64 a, .int .i64 b, .sl 1 s] H) := by
  obtain ⟨k, rfl⟩ : ∃ q, k = q + 1 := ⟨k - 1, by omega⟩
  rw [impl_LoopAround.call]
  have hl := hs.len
  have g1 : H <+: H ++ [some (Blk.mk false [AV.int .i64 a])] := (List.prefix_append _ _)
  have g2 : H ++ [some (Blk.mk false [AV.int .i64 a])] <+: H ++ [some (Blk.mk false [AV.int .i64 a])] ++ [some (Blk.mk false [AV.int .i64 b])] := (List.prefix_append _ _)
  have g3 : H ++ [some (Blk.mk false [AV.int .i64 a])] ++ [some (Blk.mk false [AV.int .i64 b])] <+: H ++ [some (Blk.mk false [AV.int .i64 a])] ++ [some (Blk.mk false [AV.int .i64 b])] ++ [some (Blk.mk false [AV.sl 1 s])] := (List.prefix_append _ _)
  have c1 : ldI .i64 (H ++ [some (Blk.mk false [AV.int .i64 a])]) H.length 0 = some a := by simp [ldI, Hp.cell, AV.toI]
  have c2 : ldI .i64 (H ++ [some (Blk.mk false [AV.int .i64 a])] ++ [some (Blk.mk false [AV.int .i64 b])]) (H ++ [some (Blk.mk false [AV.int .i64 a])]).length 0 = some b := by simp only [ldI, Hp.cell, List.getElem?_concat_length]; simp [AV.toI]
  have c3 : ldS 1 (H ++ [some (Blk.mk false [AV.int .i64 a])] ++ [some (Blk.mk false [AV.int .i64 b])] ++ [some (Blk.mk false [AV.sl 1 s])]) (H ++ [some (Blk.mk false [AV.int .i64 a])] ++ [some (Blk.mk false [AV.int .i64 b])]).length 0 = some s := by simp only [ldS, Hp.cell, List.getElem?_concat_length]; simp [AV.toS]
  have c1' := pf_ldI (g2.trans g3) c1
  have c2' := pf_ldI g3 c2
  unfold impl_LoopAround.f
  generalize H ++ [some (Blk.mk false [AV.int .i64 a])] ++ [some (Blk.mk false [AV.int .i64 b])] ++ [some (Blk.mk false [AV.sl 1 s])] = B at *
  have gB : H <+: B := g1.trans (g2.trans g3)
  generalize (H ++ [some (Blk.mk false [AV.int .i64 a])] ++ [some (Blk.mk false [AV.int .i64 b])]).length = u at *
  generalize (H ++ [some (Blk.mk false [AV.int .i64 a])]).length = q at *
  generalize H.length = p at *
  have hno : ¬ okA a b l → Gives H (arV a b l) (impl_LoopAround.j0 (callF PP orc k) k p 0 q 0 u 0 true 0 0 Sl.none Sl.none B) := fun h => by
    rw [arV_no h]
    obtain ⟨sa, sd, ra, rd, H', e1, e2, e3, e4, e5, e6, e7⟩ := gives_none (H := B)
    exact ⟨sa, sd, ra, rd, H', e1, gB.trans e2, e3.base gB, e4.base gB, e5, e6, e7⟩
  rw [c1', Option.bind_some]
  by_cases h1 : a < 1
  · rw [dt h1, cond_true]; exact hno (fun h => by have := h.1; omega)
  rw [df h1, cond_false, Option.bind_some]
  by_cases h2 : a > 4
  · rw [dt h2, cond_true]; exact hno (fun h => by have := h.1; omega)
  rw [df h2, cond_false, c2', Option.bind_some]
  by_cases h3 : b < 1
  · rw [dt h3, cond_true]; exact hno (fun h => by have := h.2.1; omega)
  rw [df h3, cond_false, Option.bind_some]
  by_cases h4 : b > 4
  · rw [dt h4, cond_true]; exact hno (fun h => by have := h.2.1; omega)
  rw [df h4, cond_false, c3, Option.bind_some, Option.bind_some, Option.bind_some]
  obtain ⟨R, rfl⟩ := Int.eq_ofNat_of_zero_le (show 0 ≤ a by omega)
  obtain ⟨C, rfl⟩ := Int.eq_ofNat_of_zero_le (show 0 ≤ b by omega)
  obtain ⟨w1, w2⟩ := prodW (R := R) (C := C) (by omega) (by omega)
  rw [w1]
  by_cases h5 : (s.len : Int) = ((R * C : Nat) : Int)
  · rw [nf h5]
    have hok : okA (R : Int) (C : Int) l := ⟨by omega, by omega, by rw [← hl, h5]; push_cast; rfl⟩
    have hbox : Box B R C l s p q u := ⟨c1', c2', c3, pf_readsB gB hs, by omega, by omega, by omega⟩
    rw [arV_yes hok]
    obtain ⟨sa, ra, H1, a1, a2, a3, a4⟩ := iA_l2 (show 2000000 ≤ k by omega) hbox (R + 1) 0 k B Sl.none [] (by omega) (by omega) (List.prefix_refl _) (OwR.nil _ _) rfl
    obtain ⟨sd, rd, H2, b1, b2, b3, b4⟩ := iD_l6 (show 2000000 ≤ k by omega) (sa := sa) (hbox.pf a2) (C + 1) 0 k H1 Sl.none [] (by omega) (by omega) (List.prefix_refl _) (OwR.nil _ _) rfl
    refine ⟨sa, sd, ra, rd, H2, ?_, gB.trans (a2.trans b2), (a3.pf b2).base gB, b3.base (gB.trans a2), apt_of a3 b3, a4, b4⟩
    have hc1 := pf_ldI a2 c2'
    simp only [Int.natCast_zero] at a1 b1
    simp (disch := omega) only [impl_LoopAround.j0, impl_LoopAround.j1, impl_LoopAround.j4, cond_false, c1', c2', Option.bind_some, wr (n := (R : Int) + 1), a1, hc1, wr (n := (C : Int) + 1), b1]
  · rw [nt h5]
    exact hno (fun h => h5 (by rw [hl, h.2.2]; push_cast; rfl))
/- The edges around cells: the reference's side. No conditions. -/
/-- What the reference reads. -/
structure Fld (H : Hp) (R C : Nat) (l : List Bool) (s : Sl) : Prop where
  ll : ReadsB H s l
  nn : l.length = R * C
  R4 : 1 ≤ R ∧ R ≤ 4
  C4 : 1 ≤ C ∧ C ≤ 4
theorem Fld.pf {H H' : Hp} {R C : Nat} {l : List Bool} {s : Sl} (h : Fld H R C l s) (g : H <+: H') : Fld H' R C l s := ⟨pf_readsB g h.ll, h.nn, h.R4, h.C4⟩
/-- A cell that is read. -/
theorem Fld.at' {H : Hp} {R C : Nat} {l : List Bool} {s : Sl} (h : Fld H R C l s) {r c : Int} (hi : 0 ≤ r ∧ r < (R : Int) ∧ 0 ≤ c ∧ c < (C : Int)) :
    IntKind.i64.wrap (r * (C : Int)) = r * (C : Int) ∧ IntKind.i64.wrap (r * (C : Int) + c) = r * (C : Int) + c ∧ 0 ≤ r * (C : Int) + c ∧ r * (C : Int) + c < (s.len : Int) ∧ ldB H s.blk (s.off + (r * (C : Int) + c).toNat * 1) = some (inV R C l r c) := by
  obtain ⟨i1, i2, i3, i4⟩ := idx h.R4 h.C4 hi
  rw [← h.nn] at i4
  have hl := h.ll.len
  have hC := h.C4
  exact ⟨wr (by omega) (by omega), wr (by omega) (by omega), i3, by omega, by rw [inV_in hi]; exact rdb h.ll (by omega)⟩
theorem sA_l3 {rec : Rec} {k : Nat} {Hs : Hp} {R C : Nat} {l : List Bool} {s : Sl} (hb : Fld Hs R C l s) {r : Nat} (hr : r ≤ R) :
    ∀ (j c n : Nat) (H : Hp) (t : Sl), c + j = C → j < n → Hs <+: H → Own 1 Hs H t (((List.range c).map (fA R C l r)).map .bool) →
      ∃ t' H', (∀ L2 y0 y1 y2 y3 z0 z1 z2 z3, spec_LoopAround.l3 rec k L2 n (R : Int) (C : Int) s (r : Int) t (c : Int) y0 y1 y2 y3 z0 z1 z2 z3 H = spec_LoopAround.j6 rec k L2 (R : Int) (C : Int) s (r : Int) t' y0 y1 y2 y3 z0 z1 z2 z3 H') ∧ Hs <+: H' ∧ Own 1 Hs H' t' ((rowA R C l r).map .bool) := by
  have hR := hb.R4
  have hC := hb.C4
  intro j
  induction j with
  | zero =>
    intro c n H t hc hn hp ho
    obtain ⟨n, rfl⟩ : ∃ m, n = m + 1 := ⟨n - 1, by omega⟩
    have e : c = C := by omega
    subst e
    refine ⟨t, H, fun L2 y0 y1 y2 y3 z0 z1 z2 z3 => ?_, hp, ho⟩
    simp (disch := omega) only [spec_LoopAround.l3, df, cond_false]
  | succ j ih =>
    intro c n H t hc hn hp ho
    obtain ⟨n, rfl⟩ : ∃ m, n = m + 1 := ⟨n - 1, by omega⟩
    obtain ⟨t1, H1, a1, a2, a3⟩ := own_appB ho hp (fA R C l r c) (by simp; omega)
    rw [rng] at a3
    obtain ⟨t', H', b1, b2, b3⟩ := ih (c + 1) n H1 t1 (by omega) (by omega) a2 a3
    refine ⟨t', H', fun L2 y0 y1 y2 y3 z0 z1 z2 z3 => ?_, b2, b3⟩
    have b := b1 L2 y0 y1 y2 y3 z0 z1 z2 z3
    push_cast at b
    unfold fA at a1
    have hbl := hb.pf hp
    have hj8 : ∀ x11 x12 : Bool, x11 = inV R C l ((r : Int) - 1) c → x12 = inV R C l r c → spec_LoopAround.j8 rec k L2 (spec_LoopAround.l3 rec k L2 n) (R : Int) (C : Int) s (r : Int) t (c : Int) x11 x12 y0 y1 y2 y3 z0 z1 z2 z3 H = spec_LoopAround.j6 rec k L2 (R : Int) (C : Int) s (r : Int) t' y0 y1 y2 y3 z0 z1 z2 z3 H' := fun x11 x12 e1 e2 => by
      subst e1 e2
      simp (disch := omega) only [spec_LoopAround.j8, spec_LoopAround.j12, a1, Option.bind_some, wr (n := (c : Int) + 1), b]
    have hj5 : ∀ x11 : Bool, x11 = inV R C l ((r : Int) - 1) c → spec_LoopAround.j5 rec k L2 (spec_LoopAround.l3 rec k L2 n) (R : Int) (C : Int) s (r : Int) t (c : Int) x11 y0 y1 y2 y3 z0 z1 z2 z3 H = spec_LoopAround.j6 rec k L2 (R : Int) (C : Int) s (r : Int) t' y0 y1 y2 y3 z0 z1 z2 z3 H' := fun x11 e1 => by
      by_cases h : r < R
      · obtain ⟨w1, w2, w3, w4, w5⟩ := hbl.at' (r := (r : Int)) (c := (c : Int)) (by omega)
        rw [← hj8 x11 _ e1 rfl]
        simp only [spec_LoopAround.j5, dt (show (r : Int) < (R : Int) by omega), cond_true, w1, w2, dt w3, dt w4, Bool.and_self, w5, Option.bind_some]
      · have e2 : false = inV R C l r c := by rw [inV_out (by omega)]
        rw [← hj8 x11 false e1 e2]
        simp only [spec_LoopAround.j5, df (show ¬ (r : Int) < (R : Int) by omega), cond_false]
    have hc1 : (c : Int) < (C : Int) := by omega
    by_cases h : r = 0
    · subst h
      have e1 : false = inV R C l (((0 : Nat) : Int) - 1) c := by rw [inV_out (by omega)]
      rw [← hj5 false e1]
      simp only [spec_LoopAround.l3, dt hc1, cond_true, df (show ¬ ((0 : Nat) : Int) > 0 by omega), cond_false]
    · obtain ⟨w1, w2, w3, w4, w5⟩ := hbl.at' (r := (r : Int) - 1) (c := (c : Int)) (by omega)
      rw [← hj5 _ rfl]
      simp only [spec_LoopAround.l3, dt hc1, cond_true, dt (show (r : Int) > 0 by omega), wr (n := (r : Int) - 1) (by omega) (by omega), w1, w2, dt w3, dt w4, Bool.and_self, w5, Option.bind_some]
theorem sA_l2 {rec : Rec} {k : Nat} (hk : 2000000 ≤ k) {B : Hp} {R C : Nat} {l : List Bool} {s : Sl} (hb : Fld B R C l s) :
    ∀ (j r n : Nat) (H : Hp) (t : Sl) (rs : List Rw), r + j = R + 1 → j < n → B <+: H → OwR B H t rs → rs.map Rw.row = (List.range r).map (rowA R C l) →
      ∃ t' rs' H', (∀ y0 y1 y2 y3, spec_LoopAround.l2 rec k n (R : Int) (C : Int) s (r : Int) y0 y1 y2 y3 (R : Int) (C : Int) t Sl.none H = spec_LoopAround.j4 rec k (R : Int) (C : Int) s y0 y1 y2 y3 (R : Int) (C : Int) t' Sl.none H') ∧ B <+: H' ∧ OwR B H' t' rs' ∧ rs'.map Rw.row = (List.range (R + 1)).map (rowA R C l) := by
  have hR := hb.R4
  have hC := hb.C4
  intro j
  induction j with
  | zero =>
    intro r n H t rs hr hn hp ho he
    obtain ⟨n, rfl⟩ : ∃ m, n = m + 1 := ⟨n - 1, by omega⟩
    have e : r = R + 1 := by omega
    subst e
    refine ⟨t, rs, H, fun y0 y1 y2 y3 => ?_, hp, ho, he⟩
    push_cast
    simp (disch := omega) only [spec_LoopAround.l2, df, cond_false]
  | succ j ih =>
    intro r n H t rs hr hn hp ho he
    obtain ⟨n, rfl⟩ : ∃ m, n = m + 1 := ⟨n - 1, by omega⟩
    have hlen : rs.length = r := by simpa using congrArg List.length he
    have g0 : H <+: H ++ [some (Blk.mk false [])] := (List.prefix_append _ _)
    obtain ⟨t1, H1, a1, a2, a3⟩ := sA_l3 (rec := rec) (k := k) (hb.pf hp) (r := r) (by omega) C 0 k _ (Sl.mk false H.length 0 0) (by omega) (by omega) g0 (own_new 1 H [] 0 rfl)
    have hold : ∀ x ∈ rs, x.sl.blk < H.length := fun x hx => own_ltB (ho.each x hx)
    have hnew := a3.blk
    obtain ⟨t2, H2, b1, b2, b3, _⟩ := (ho.pf a2).app (hp.trans a2) ⟨t1, rowA R C l r⟩ (own_base a3 hp) (fun e => by
      rcases ho.out with ⟨_, h⟩ | ⟨_, o⟩
      · exact absurd h e
      · have := own_ltB o; simp only; omega) (fun x hx => by have := hold x hx; simp only; omega) (by omega)
    obtain ⟨t', rs', H', d1, d2, d3, d4⟩ := ih (r + 1) n H2 t2 _ (by omega) (by omega) b2 b3 (by rw [List.map_append, he, ← rngL]; rfl)
    refine ⟨t', rs', H', fun y0 y1 y2 y3 => ?_, d2, d3, d4⟩
    have d := d1 y0 y1 y2 y3
    have a := a1 (spec_LoopAround.l2 rec k n) y0 y1 y2 y3 R C t Sl.none
    simp only [Int.natCast_zero] at a
    push_cast at d
    simp (disch := omega) only [spec_LoopAround.l2, dt, cond_true, Option.bind_some, a, spec_LoopAround.j6, spec_LoopAround.j9, b1, wr (n := (r : Int) + 1), d]
theorem sD_l10 {rec : Rec} {k : Nat} {Hs : Hp} {R C : Nat} {l : List Bool} {s : Sl} (hb : Fld Hs R C l s) {c : Nat} (hc : c ≤ C) :
    ∀ (j r n : Nat) (H : Hp) (t : Sl), r + j = R → j < n → Hs <+: H → Own 1 Hs H t (((List.range r).map (fD R C l c)).map .bool) →
      ∃ t' H', (∀ L2 y0 y1 y2 y3 z0 z1 z2 z3, spec_LoopAround.l10 rec k L2 n (R : Int) (C : Int) s (c : Int) t (r : Int) y0 y1 y2 y3 z0 z1 z2 z3 H = spec_LoopAround.j14 rec k L2 (R : Int) (C : Int) s (c : Int) t' y0 y1 y2 y3 z0 z1 z2 z3 H') ∧ Hs <+: H' ∧ Own 1 Hs H' t' ((rowD R C l c).map .bool) := by
  have hR := hb.R4
  have hC := hb.C4
  intro j
  induction j with
  | zero =>
    intro r n H t hr hn hp ho
    obtain ⟨n, rfl⟩ : ∃ m, n = m + 1 := ⟨n - 1, by omega⟩
    have e : r = R := by omega
    subst e
    refine ⟨t, H, fun L2 y0 y1 y2 y3 z0 z1 z2 z3 => ?_, hp, ho⟩
    simp (disch := omega) only [spec_LoopAround.l10, df, cond_false]
  | succ j ih =>
    intro r n H t hr hn hp ho
    obtain ⟨n, rfl⟩ : ∃ m, n = m + 1 := ⟨n - 1, by omega⟩
    obtain ⟨t1, H1, a1, a2, a3⟩ := own_appB ho hp (fD R C l c r) (by simp; omega)
    rw [rng] at a3
    obtain ⟨t', H', b1, b2, b3⟩ := ih (r + 1) n H1 t1 (by omega) (by omega) a2 a3
    refine ⟨t', H', fun L2 y0 y1 y2 y3 z0 z1 z2 z3 => ?_, b2, b3⟩
    have b := b1 L2 y0 y1 y2 y3 z0 z1 z2 z3
    push_cast at b
    unfold fD at a1
    have hbl := hb.pf hp
    have hj15 : ∀ x11 x12 : Bool, x11 = inV R C l r ((c : Int) - 1) → x12 = inV R C l r c → spec_LoopAround.j15 rec k L2 (spec_LoopAround.l10 rec k L2 n) (R : Int) (C : Int) s (c : Int) t (r : Int) x11 x12 y0 y1 y2 y3 z0 z1 z2 z3 H = spec_LoopAround.j14 rec k L2 (R : Int) (C : Int) s (c : Int) t' y0 y1 y2 y3 z0 z1 z2 z3 H' := fun x11 x12 e1 e2 => by
      subst e1 e2
      simp (disch := omega) only [spec_LoopAround.j15, spec_LoopAround.j17, a1, Option.bind_some, wr (n := (r : Int) + 1), b]
    have hj13 : ∀ x11 : Bool, x11 = inV R C l r ((c : Int) - 1) → spec_LoopAround.j13 rec k L2 (spec_LoopAround.l10 rec k L2 n) (R : Int) (C : Int) s (c : Int) t (r : Int) x11 y0 y1 y2 y3 z0 z1 z2 z3 H = spec_LoopAround.j14 rec k L2 (R : Int) (C : Int) s (c : Int) t' y0 y1 y2 y3 z0 z1 z2 z3 H' := fun x11 e1 => by
      by_cases h : c < C
      · obtain ⟨w1, w2, w3, w4, w5⟩ := hbl.at' (r := (r : Int)) (c := (c : Int)) (by omega)
        rw [← hj15 x11 _ e1 rfl]
        simp only [spec_LoopAround.j13, dt (show (c : Int) < (C : Int) by omega), cond_true, w1, w2, dt w3, dt w4, Bool.and_self, w5, Option.bind_some]
      · have e2 : false = inV R C l r c := by rw [inV_out (by omega)]
        rw [← hj15 x11 false e1 e2]
        simp only [spec_LoopAround.j13, df (show ¬ (c : Int) < (C : Int) by omega), cond_false]
    have hr1 : (r : Int) < (R : Int) := by omega
    by_cases h : c = 0
    · subst h
      have e1 : false = inV R C l r (((0 : Nat) : Int) - 1) := by rw [inV_out (by omega)]
      rw [← hj13 false e1]
      simp only [spec_LoopAround.l10, dt hr1, cond_true, df (show ¬ ((0 : Nat) : Int) > 0 by omega), cond_false]
    · obtain ⟨w1, w2, w3, w4, w5⟩ := hbl.at' (r := (r : Int)) (c := (c : Int) - 1) (by omega)
      have e : (r : Int) * (C : Int) + (c : Int) - 1 = (r : Int) * (C : Int) + ((c : Int) - 1) := by omega
      have w6 : IntKind.i64.wrap ((r : Int) * (C : Int) + (c : Int)) = (r : Int) * (C : Int) + (c : Int) := by
        obtain ⟨i1, i2, i3, i4⟩ := idx hR hC (r := (r : Int)) (c := (c : Int) - 1) (by omega)
        exact wr (by omega) (by omega)
      rw [← hj13 _ rfl]
      simp only [spec_LoopAround.l10, dt hr1, cond_true, dt (show (c : Int) > 0 by omega), w1, w6, e, w2, dt w3, dt w4, Bool.and_self, w5, Option.bind_some]
theorem sD_l7 {rec : Rec} {k : Nat} (hk : 2000000 ≤ k) {B : Hp} {R C : Nat} {l : List Bool} {s sa : Sl} (hb : Fld B R C l s) :
    ∀ (j c n : Nat) (H : Hp) (t : Sl) (rs : List Rw), c + j = C + 1 → j < n → B <+: H → OwR B H t rs → rs.map Rw.row = (List.range c).map (rowD R C l) →
      ∃ t' rs' H', (∀ y0 y1 y2 y3, spec_LoopAround.l7 rec k n (R : Int) (C : Int) s (c : Int) y0 y1 y2 y3 (R : Int) (C : Int) sa t H = some (.agg [.int .i64 (R : Int), .int .i64 (C : Int), .sl 1 sa, .sl 1 t'], H')) ∧ B <+: H' ∧ OwR B H' t' rs' ∧ rs'.map Rw.row = (List.range (C + 1)).map (rowD R C l) := by
  have hR := hb.R4
  have hC := hb.C4
  intro j
  induction j with
  | zero =>
    intro c n H t rs hc hn hp ho he
    obtain ⟨n, rfl⟩ : ∃ m, n = m + 1 := ⟨n - 1, by omega⟩
    have e : c = C + 1 := by omega
    subst e
    refine ⟨t, rs, H, fun y0 y1 y2 y3 => ?_, hp, ho, he⟩
    push_cast
    simp (disch := omega) only [spec_LoopAround.l7, spec_LoopAround.j11, df, cond_false]
  | succ j ih =>
    intro c n H t rs hc hn hp ho he
    obtain ⟨n, rfl⟩ : ∃ m, n = m + 1 := ⟨n - 1, by omega⟩
    have hlen : rs.length = c := by simpa using congrArg List.length he
    have g0 : H <+: H ++ [some (Blk.mk false [])] := (List.prefix_append _ _)
    obtain ⟨t1, H1, a1, a2, a3⟩ := sD_l10 (rec := rec) (k := k) (hb.pf hp) (c := c) (by omega) R 0 k _ (Sl.mk false H.length 0 0) (by omega) (by omega) g0 (own_new 1 H [] 0 rfl)
    have hold : ∀ x ∈ rs, x.sl.blk < H.length := fun x hx => own_ltB (ho.each x hx)
    have hnew := a3.blk
    obtain ⟨t2, H2, b1, b2, b3, _⟩ := (ho.pf a2).app (hp.trans a2) ⟨t1, rowD R C l c⟩ (own_base a3 hp) (fun e => by
      rcases ho.out with ⟨_, h⟩ | ⟨_, o⟩
      · exact absurd h e
      · have := own_ltB o; simp only; omega) (fun x hx => by have := hold x hx; simp only; omega) (by omega)
    obtain ⟨t', rs', H', d1, d2, d3, d4⟩ := ih (c + 1) n H2 t2 _ (by omega) (by omega) b2 b3 (by rw [List.map_append, he, ← rngL]; rfl)
    refine ⟨t', rs', H', fun y0 y1 y2 y3 => ?_, d2, d3, d4⟩
    have d := d1 y0 y1 y2 y3
    have a := a1 (spec_LoopAround.l7 rec k n) y0 y1 y2 y3 R C sa t
    simp only [Int.natCast_zero] at a
    push_cast at d
    simp (disch := omega) only [spec_LoopAround.l7, dt, cond_true, Option.bind_some, a, spec_LoopAround.j14, spec_LoopAround.j16, b1, wr (n := (c : Int) + 1), d]
theorem specAround_ok {k : Nat} (hk : 2000001 ≤ k) {H : Hp} {s : Sl} {l : List Bool} (a b : Int) (hs : ReadsB H s l) :
    Gives H (arV a b l) (callF PP orc k spec_LoopAround.id [.int .i64 a, .int .i64 b, .sl 1 s] H) := by
  obtain ⟨k, rfl⟩ : ∃ q, k = q + 1 := ⟨k - 1, by omega⟩
  rw [spec_LoopAround.call]
  have hl := hs.len
  have c1 := l1In_ok (show 1 ≤ k by omega) a 1 4 H
  have c2 := l1In_ok (show 1 ≤ k by omega) b 1 4 H
  have hno : ¬ okA a b l → Gives H (arV a b l) (spec_LoopAround.j0 (callF PP orc k) k a b s true 0 0 Sl.none Sl.none H) := fun h => by
    rw [arV_no h]
    exact gives_none
  unfold spec_LoopAround.f
  rw [c1, Option.bind_some]
  by_cases h1 : 1 ≤ a ∧ a ≤ 4
  · rw [dt h1]
    simp only [AV.toB, Option.bind_some, Bool.not_true, cond_false]
    rw [c2, Option.bind_some]
    by_cases h2 : 1 ≤ b ∧ b ≤ 4
    · rw [dt h2]
      simp only [Bool.not_true, cond_false, Option.bind_some]
      obtain ⟨R, rfl⟩ := Int.eq_ofNat_of_zero_le (show 0 ≤ a by omega)
      obtain ⟨C, rfl⟩ := Int.eq_ofNat_of_zero_le (show 0 ≤ b by omega)
      obtain ⟨w1, w2⟩ := prodW (R := R) (C := C) (by omega) (by omega)
      rw [w1]
      by_cases h5 : (s.len : Int) = ((R * C : Nat) : Int)
      · rw [nf h5]
        have hok : okA (R : Int) (C : Int) l := ⟨by omega, by omega, by rw [← hl, h5]; push_cast; rfl⟩
        have hf : Fld H R C l s := ⟨hs, by omega, by omega, by omega⟩
        rw [arV_yes hok]
        obtain ⟨sa, ra, H1, a1, a2, a3, a4⟩ := sA_l2 (rec := callF PP orc k) (show 2000000 ≤ k by omega) hf (R + 1) 0 k H Sl.none [] (by omega) (by omega) (List.prefix_refl _) (OwR.nil _ _) rfl
        obtain ⟨sd, rd, H2, b1, b2, b3, b4⟩ := sD_l7 (rec := callF PP orc k) (show 2000000 ≤ k by omega) (sa := sa) (hf.pf a2) (C + 1) 0 k H1 Sl.none [] (by omega) (by omega) (List.prefix_refl _) (OwR.nil _ _) rfl
        refine ⟨sa, sd, ra, rd, H2, ?_, a2.trans b2, a3.pf b2, b3.base a2, apt_of a3 b3, a4, b4⟩
        simp only [Int.natCast_zero] at a1 b1
        simp only [spec_LoopAround.j0, spec_LoopAround.j1, spec_LoopAround.j4, cond_false, a1, b1]
      · rw [nt h5]
        exact hno (fun h => h5 (by rw [hl, h.2.2]; push_cast; rfl))
    · rw [df h2]
      simp only [Bool.not_false, cond_true, Option.bind_some]
      exact hno (fun h => h2 h.2.1)
  · rw [df h1]
    simp only [AV.toB, Option.bind_some, Bool.not_false, cond_true]
    exact hno (fun h => h1 h.1)
/- The law FnExactLoopAround: true whatever it is given. No conditions. -/
theorem arV_small (a b : Int) (l : List Bool) : ((arV a b l).2.2.1.length ≤ 1000 ∧ ∀ x ∈ (arV a b l).2.2.1, x.length ≤ 1000) ∧ ((arV a b l).2.2.2.length ≤ 1000 ∧ ∀ x ∈ (arV a b l).2.2.2, x.length ≤ 1000) := by
  unfold arV
  split
  · rename_i h
    obtain ⟨h1, h2, _⟩ := h
    refine ⟨⟨by simp; omega, fun x hx => ?_⟩, ⟨by simp; omega, fun x hx => ?_⟩⟩
    · obtain ⟨r, _, rfl⟩ := List.mem_map.1 hx
      simp [rowA]; omega
    · obtain ⟨c, _, rfl⟩ := List.mem_map.1 hx
      simp [rowD]; omega
  · simp
theorem small_rows {rs : List Rw} {v : List (List Bool)} (he : rs.map Rw.row = v) (h : v.length ≤ 1000 ∧ ∀ x ∈ v, x.length ≤ 1000) : rs.length ≤ 1000 ∧ ∀ r ∈ rs, r.row.length ≤ 1000 := by
  subst he
  exact ⟨by simpa using h.1, fun r hr => h.2 _ (List.mem_map_of_mem hr)⟩
theorem keep1 {b : Nat} {H0 H H' : Hp} (h : But b H H') (hb : b < H0.length) {s : Sl} {rs : List Rw} (ho : OwR H0 H s rs) : OwR H0 H' s rs :=
  ho.keep (fun c => c = b) (fun c x hc hx => h c x hc hx) (fun e q => by
    rcases ho.out with ⟨_, p⟩ | ⟨_, o⟩
    · exact e p
    · have := o.blk; omega) (fun r hr q => by have := (ho.each r hr).blk; omega)
theorem exactAround_ok {k : Nat} (hk : 2000010 ≤ k) {H : Hp} {s : Sl} {l : List Bool} (a b : Int) (hs : ReadsB H s l) :
    ∃ H', callF PP orc k laws_FnExactLoopAround.id [.int .i64 a, .int .i64 b, .sl 1 s] H = some (.bool true, H') := by
  obtain ⟨k, rfl⟩ : ∃ q, k = q + 1 := ⟨k - 1, by omega⟩
  rw [laws_FnExactLoopAround.call]
  have hlen := hs.len
  by_cases hbig : (s.len : Int) > 1048576
  · exact ⟨H, by simp only [laws_FnExactLoopAround.f, dt hbig, cond_true]⟩
  · have hl : l.length ≤ 1048576 := by omega
    obtain ⟨sm1, sm2⟩ := arV_small a b l
    obtain ⟨s2, H1, a1, a2, a3⟩ := toBoolS_ok (show 2000000 ≤ k by omega) hs hl
    obtain ⟨wa, wd, wra, wrd, H2, b1, b2, b3, b4, b5, b6, b7⟩ := specAround_ok (show 2000001 ≤ k by omega) a b (own_readsB a3)
    obtain ⟨s9, H3, c1, c2, c3⟩ := toBoolS_ok (show 2000000 ≤ k by omega) (pf_readsB (a2.trans b2) hs) hl
    obtain ⟨ga, gd, gra, grd, H4, d1, d2, d3, d4, d5, d6, d7⟩ := implAround_ok (show 2000001 ≤ k by omega) a b (own_readsB c3)
    have m1 := small_rows d6 sm1
    have m2 := small_rows d7 sm2
    have w2 := b3.rd.pf (c2.trans d2)
    have w3 := b4.rd.pf (c2.trans d2)
    have f1 := eqLoop_ok (show 2000002 ≤ k by omega) (n := (arV a b l).1) (m := (arV a b l).2.1) d3.rd d4.rd w2 w3 (d6.trans b6.symm) (d7.trans b7.symm) m1.1 m2.1 m1.2 m2.2
    have gH : H <+: H4 := a2.trans (b2.trans (c2.trans d2))
    obtain ⟨s18, H5, e1, e2, e3⟩ := toBoolS_ok (show 2000000 ≤ k by omega) (pf_readsB gH hs) hl
    have c5 := own_pf c3 (d2.trans e2)
    have f2 := eqBoolS_ok (show 2000000 ≤ k by omega) (own_readsB c5) (own_readsB e3) hl
    obtain ⟨H6, i1, i2, i3, i4, i5⟩ := markBoolS_ok (show 2000000 ≤ k by omega) (q := 1) (by omega) (by omega) hl (c2.trans (d2.trans e2)) c5
    have g9 := own_ltB c3
    have o1 := keep1 i4 g9 (d3.pf e2)
    have o2 := keep1 i4 g9 (d4.pf e2)
    have w4 := b3.rd.pf i2
    have w5 := b4.rd.pf i2
    have f3 := eqLoop_ok (show 2000002 ≤ k by omega) (n := (arV a b l).1) (m := (arV a b l).2.1) o1.rd o2.rd w4 w5 (d6.trans b6.symm) (d7.trans b7.symm) m1.1 m2.1 m1.2 m2.2
    obtain ⟨H7, j1, j2, j3, j4⟩ := markLoop_ok (show 2000002 ≤ k by omega) (n := (arV a b l).1) (m := (arV a b l).2.1) (o1.base c2) (o2.base c2) d5 i2 m1.2 m2.2 m1.1 m2.1
    have q1 := sumQ_le 1 gra m1.2
    have q2 := sumQ_le (sumQ 1 gra) grd m2.2
    have f4 := heldLoop_ok (show 2000002 ≤ k by omega) (n := (arV a b l).1) (m := (arV a b l).2.1) j3 j4 m1.2 m2.2 m1.1 m2.1
    obtain ⟨s30, H8, p1, p2, p3⟩ := toBoolS_ok (show 2000000 ≤ k by omega) (pf_readsB ((a2.trans b2).trans j2) hs) hl
    obtain ⟨ha, hd, hra, hrd, H9, t1, t2, t3, t4, t5, t6, t7⟩ := implAround_ok (show 2000001 ≤ k by omega) a b (own_readsB p3)
    have n1 := small_rows t6 sm1
    have n2 := small_rows t7 sm2
    have gH9 : H2 <+: H9 := j2.trans (p2.trans t2)
    have f5 := eqLoop_ok (show 2000002 ≤ k by omega) (n := (arV a b l).1) (m := (arV a b l).2.1) t3.rd t4.rd (b3.rd.pf gH9) (b4.rd.pf gH9) (t6.trans b6.symm) (t7.trans b7.symm) n1.1 n2.1 n1.2 n2.2
    have f6 := heldLoop_ok (show 2000002 ≤ k by omega) (n := (arV a b l).1) (m := (arV a b l).2.1) (j3.pf (p2.trans t2)) (j4.pf (p2.trans t2)) m1.2 m2.2 m1.1 m2.1
    generalize (arV a b l).1 = vn at *
    generalize (arV a b l).2.1 = vm at *
    generalize hQ : sumQ (sumQ 1 gra) grd = Q at *
    have z1 : ¬ ((1 : Int) + (l.length : Int) < 0) := by omega
    have z2 : ¬ (Q < 0) := by omega
    refine ⟨H9, ?_⟩
    have u1 : decide ((1 : Int) + (l.length : Int) < 0) = false := df z1
    have u2 : decide (Q < 0) = false := df z2
    have u3 : (Q != Q) = false := nf rfl
    unfold laws_FnExactLoopAround.f
    rw [df hbig, cond_false, a1, Option.bind_some]
    simp only [AV.isTup, AV.nth, AV.isAgg, AV.cel, AV.toI, AV.toS, AV.toB, List.length_cons, List.length_nil, List.getD_cons_zero, List.getD_cons_succ, if_true, decide_true, beq_self_eq_true, cond_true, cond_false, Bool.not_true, Bool.not_false, Option.bind_some]
    rw [b1, Option.bind_some]
    simp only [AV.isTup, AV.nth, AV.isAgg, AV.cel, AV.toI, AV.toS, AV.toB, List.length_cons, List.length_nil, List.getD_cons_zero, List.getD_cons_succ, if_true, decide_true, beq_self_eq_true, cond_true, cond_false, Bool.not_true, Bool.not_false, Option.bind_some]
    rw [c1, Option.bind_some]
    simp only [AV.isTup, AV.nth, AV.isAgg, AV.cel, AV.toI, AV.toS, AV.toB, List.length_cons, List.length_nil, List.getD_cons_zero, List.getD_cons_succ, if_true, decide_true, beq_self_eq_true, cond_true, cond_false, Bool.not_true, Bool.not_false, Option.bind_some]
    rw [d1, Option.bind_some]
    simp only [AV.isTup, AV.nth, AV.isAgg, AV.cel, AV.toI, AV.toS, AV.toB, List.length_cons, List.length_nil, List.getD_cons_zero, List.getD_cons_succ, if_true, decide_true, beq_self_eq_true, cond_true, cond_false, Bool.not_true, Bool.not_false, Option.bind_some]
    rw [f1, Option.bind_some]
    simp only [AV.isTup, AV.nth, AV.isAgg, AV.cel, AV.toI, AV.toS, AV.toB, List.length_cons, List.length_nil, List.getD_cons_zero, List.getD_cons_succ, if_true, decide_true, beq_self_eq_true, cond_true, cond_false, Bool.not_true, Bool.not_false, Option.bind_some]
    rw [e1, Option.bind_some]
    simp only [AV.isTup, AV.nth, AV.isAgg, AV.cel, AV.toI, AV.toS, AV.toB, List.length_cons, List.length_nil, List.getD_cons_zero, List.getD_cons_succ, if_true, decide_true, beq_self_eq_true, cond_true, cond_false, Bool.not_true, Bool.not_false, Option.bind_some]
    rw [f2, Option.bind_some]
    simp only [AV.isTup, AV.nth, AV.isAgg, AV.cel, AV.toI, AV.toS, AV.toB, List.length_cons, List.length_nil, List.getD_cons_zero, List.getD_cons_succ, if_true, decide_true, beq_self_eq_true, cond_true, cond_false, Bool.not_true, Bool.not_false, Option.bind_some]
    rw [i1, Option.bind_some]
    simp only [AV.isTup, AV.nth, AV.isAgg, AV.cel, AV.toI, AV.toS, AV.toB, List.length_cons, List.length_nil, List.getD_cons_zero, List.getD_cons_succ, if_true, decide_true, beq_self_eq_true, cond_true, cond_false, Bool.not_true, Bool.not_false, Option.bind_some]
    rw [u1, cond_false, f3, Option.bind_some]
    simp only [AV.isTup, AV.nth, AV.isAgg, AV.cel, AV.toI, AV.toS, AV.toB, List.length_cons, List.length_nil, List.getD_cons_zero, List.getD_cons_succ, if_true, decide_true, beq_self_eq_true, cond_true, cond_false, Bool.not_true, Bool.not_false, Option.bind_some]
    unfold laws_FnExactLoopAround.j0
    rw [cond_false]
    unfold laws_FnExactLoopAround.j1
    rw [j1, Option.bind_some]
    simp only [AV.isTup, AV.nth, AV.isAgg, AV.cel, AV.toI, AV.toS, AV.toB, List.length_cons, List.length_nil, List.getD_cons_zero, List.getD_cons_succ, if_true, decide_true, beq_self_eq_true, cond_true, cond_false, Bool.not_true, Bool.not_false, Option.bind_some]
    rw [f4, Option.bind_some]
    simp only [AV.isTup, AV.nth, AV.isAgg, AV.cel, AV.toI, AV.toS, AV.toB, List.length_cons, List.length_nil, List.getD_cons_zero, List.getD_cons_succ, if_true, decide_true, beq_self_eq_true, cond_true, cond_false, Bool.not_true, Bool.not_false, Option.bind_some]
    rw [u2, cond_false, u3, cond_false, p1, Option.bind_some]
    simp only [AV.isTup, AV.nth, AV.isAgg, AV.cel, AV.toI, AV.toS, AV.toB, List.length_cons, List.length_nil, List.getD_cons_zero, List.getD_cons_succ, if_true, decide_true, beq_self_eq_true, cond_true, cond_false, Bool.not_true, Bool.not_false, Option.bind_some]
    rw [t1, Option.bind_some]
    simp only [AV.isTup, AV.nth, AV.isAgg, AV.cel, AV.toI, AV.toS, AV.toB, List.length_cons, List.length_nil, List.getD_cons_zero, List.getD_cons_succ, if_true, decide_true, beq_self_eq_true, cond_true, cond_false, Bool.not_true, Bool.not_false, Option.bind_some]
    rw [f5, Option.bind_some]
    simp only [AV.isTup, AV.nth, AV.isAgg, AV.cel, AV.toI, AV.toS, AV.toB, List.length_cons, List.length_nil, List.getD_cons_zero, List.getD_cons_succ, if_true, decide_true, beq_self_eq_true, cond_true, cond_false, Bool.not_true, Bool.not_false, Option.bind_some]
    rw [f6, Option.bind_some]
    simp only [AV.isTup, AV.nth, AV.isAgg, AV.cel, AV.toI, AV.toS, AV.toB, List.length_cons, List.length_nil, List.getD_cons_zero, List.getD_cons_succ, if_true, decide_true, beq_self_eq_true, cond_true, cond_false, Bool.not_true, Bool.not_false, Option.bind_some]
    rw [u2, cond_false, u3, cond_false]
end Go.Proofs.Ytoalafkpkllebaa.Rp
