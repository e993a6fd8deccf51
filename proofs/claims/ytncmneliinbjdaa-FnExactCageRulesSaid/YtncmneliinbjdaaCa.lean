/- A kit for what the program's functions, as plain Lean functions on a heap, come to. No conditions. -/
import Derived.Test.YtncmneliinbjdaaAy
import Derived.Test.YtncmneliinbjdaaRqs
import Derived.IntWalk
set_option linter.unusedVariables false
set_option linter.unusedSimpArgs false
namespace Go.Proofs.Ytncmneliinbjdaa.Rp
open Go Go.RowKit Go.Proofs.Ytncmneliinbjdaa.Ab

theorem wr {n : Int} (h1 : -9223372036854775808 ≤ n) (h2 : n ≤ 9223372036854775807) : IntKind.i64.wrap n = n := by
  rw [IntWalk.i64_left]; exact IntWalk.wrap64_in n ⟨h1, h2⟩
theorem wrs {i : Nat} (h : i < 4611686018427387904) : IntKind.i64.wrap ((i : Int) + 1) = (i : Int) + 1 := wr (by omega) (by omega)
theorem set_next {α : Type} (l : List α) (d : α) (i j : Nat) (h : i < l.length) : (l.take i ++ List.replicate (j + 1) d).set i l[i] = l.take (i + 1) ++ List.replicate j d := by
  rw [List.set_append_right _ _ (by simp; omega), List.take_succ_eq_append_getElem h, List.append_assoc]
  simp [show min i l.length = i by omega, List.replicate_succ]


theorem pf_get {H H' : Hp} (g : H <+: H') {b : Nat} {x : Option Blk} (h : H[b]? = some x) : H'[b]? = some x := by
  obtain ⟨T, rfl⟩ := g
  have hb := (List.getElem?_eq_some_iff.1 h).1
  rw [List.getElem?_append_left hb]; exact h
theorem pf_cell {H H' : Hp} (g : H <+: H') {b o : Nat} {v : AV} (h : H.cell b o = some v) : H'.cell b o = some v := by
  unfold Hp.cell at h ⊢
  split at h
  · rename_i x hx; rw [pf_get g hx]; exact h
  · simp at h
theorem pf_reads {H H' : Hp} (g : H <+: H') {k : IntKind} {s : Sl} {l : List Int} (h : Reads k H s l) : Reads k H' s l := ⟨h.len, fun i hi => pf_cell g (h.cell i hi)⟩
theorem reads_at {H : Hp} {k : IntKind} {s : Sl} {l : List Int} (h : Reads k H s l) (i : Nat) (hi : i < l.length) : ldI k H s.blk (s.off + i) = some l[i] := by
  unfold ldI
  rw [h.cell i hi]
  simp [AV.toI]
theorem reads_nil {H : Hp} {k : IntKind} {s : Sl} (h : s.len = 0) : Reads k H s [] := ⟨h, fun i hi => absurd hi (Nat.not_lt_zero _)⟩

/-- A slice over a whole block that is new since H0, with cells c. -/
structure Own (sz : Nat) (H0 H : Hp) (s : Sl) (c : List AV) : Prop where
  nn : s.nil = false
  off : s.off = 0
  blk : H0.length ≤ s.blk
  get : H[s.blk]? = some (some ⟨false, c⟩)
  len : s.len * sz = c.length

/-- H' bears what H bears, but for the block b. -/
def But (b : Nat) (H H' : Hp) : Prop := ∀ (c : Nat) (x : Option Blk), c ≠ b → H[c]? = some x → H'[c]? = some x
theorem But.pf {b : Nat} {H H' H0 : Hp} (h : But b H H') (hb : H0.length ≤ b) (g : H0 <+: H) (hl : H.length ≤ H'.length) : H0 <+: H' := by
  have hl0 := g.length_le
  rw [List.prefix_iff_eq_take]
  apply List.ext_getElem?
  intro i
  by_cases hi : i < H0.length
  · rw [List.getElem?_take, if_pos hi]
    have e := List.getElem?_eq_getElem hi
    rw [e, h i _ (by omega) (pf_get g e)]
  · rw [List.getElem?_eq_none (by omega), List.getElem?_eq_none (by simp; omega)]
theorem But.cell {b : Nat} {H H' : Hp} (h : But b H H') {c o : Nat} (hc : c ≠ b) {v : AV} (hv : H.cell c o = some v) : H'.cell c o = some v := by
  unfold Hp.cell at hv ⊢
  split at hv
  · rename_i x hx; rw [h c _ hc hx]; exact hv
  · simp at hv
theorem But.reads {b : Nat} {H H' : Hp} (h : But b H H') {k : IntKind} {s : Sl} {l : List Int} (hs : s.blk ≠ b) (hr : Reads k H s l) : Reads k H' s l := ⟨hr.len, fun i hi => h.cell hs (hr.cell i hi)⟩
theorem But.own {b : Nat} {H H' H0 : Hp} (h : But b H H') {sz : Nat} {s : Sl} {c : List AV} (hs : s.blk ≠ b) (hr : Own sz H0 H s c) : Own sz H0 H' s c := ⟨hr.nn, hr.off, hr.blk, h _ _ hs hr.get, hr.len⟩

theorem own_cell {sz : Nat} {H0 H : Hp} {s : Sl} {c : List AV} (h : Own sz H0 H s c) (i : Nat) : H.cell s.blk (s.off + i) = c[i]? := by
  unfold Hp.cell; rw [h.get, h.off]; simp
theorem own_reads {k : IntKind} {H0 H : Hp} {s : Sl} {l : List Int} (h : Own 1 H0 H s (l.map (.int k))) : Reads k H s l :=
  ⟨by have := h.len; simpa using this, fun i hi => by rw [own_cell h]; simp [hi]⟩
theorem own_pf {sz : Nat} {H0 H H' : Hp} {s : Sl} {c : List AV} (h : Own sz H0 H s c) (g : H <+: H') : Own sz H0 H' s c := ⟨h.nn, h.off, h.blk, pf_get g h.get, h.len⟩
theorem own_base {sz : Nat} {H0 H1 H : Hp} {s : Sl} {c : List AV} (h : Own sz H1 H s c) (g : H0 <+: H1) : Own sz H0 H s c := ⟨h.nn, h.off, Nat.le_trans g.length_le h.blk, h.get, h.len⟩
theorem own_new (sz : Nat) (H : Hp) (c : List AV) (n : Nat) (hn : n * sz = c.length) : Own sz H (H ++ [some ⟨false, c⟩]) (Sl.mk false H.length 0 n) c := ⟨rfl, rfl, Nat.le_refl _, by simp, hn⟩

theorem own_sto {sz : Nat} {H0 H : Hp} {s : Sl} {c : List AV} (h : Own sz H0 H s c) (g : H0 <+: H) (o : Nat) (vs : List AV) (ho : o + vs.length ≤ c.length) :
    ∃ H', H.sto s.blk (s.off + o) vs = some H' ∧ H0 <+: H' ∧ Own sz H0 H' s (c.take o ++ vs ++ c.drop (o + vs.length)) ∧ But s.blk H H' ∧ H'.length = H.length := by
  have hb := (List.getElem?_eq_some_iff.1 h.get).1
  have hbut : But s.blk H (H.set s.blk (some ⟨false, c.take o ++ vs ++ c.drop (o + vs.length)⟩)) := fun d x hd hx => by rw [List.getElem?_set_ne (Ne.symm hd)]; exact hx
  refine ⟨H.set s.blk (some ⟨false, c.take o ++ vs ++ c.drop (o + vs.length)⟩), ?_, hbut.pf h.blk g (by simp), ⟨h.nn, h.off, h.blk, ?_, ?_⟩, hbut, by simp⟩
  · unfold Hp.sto
    rw [h.get, h.off]
    simp [ho]
  · rw [List.getElem?_set_self hb]
  · rw [h.len]; simp; omega
theorem own_app {sz : Nat} {H0 H : Hp} {s : Sl} {c : List AV} (h : Own sz H0 H s c) (g : H0 <+: H) (n : Nat) (vs : List AV) (hn : 0 < n) (hl : s.len + n ≤ 1073741824) (h1 : sz ≤ 1024) (h2 : 0 < sz) (hv : vs.length = n * sz) :
    ∃ H', H.app sz s n vs = some (Sl.mk false H.length 0 (s.len + n), H') ∧ H0 <+: H' ∧ Own sz H0 H' (Sl.mk false H.length 0 (s.len + n)) (c ++ vs) ∧ But s.blk H H' ∧ H'.length = H.length + 1 := by
  have hb := (List.getElem?_eq_some_iff.1 h.get).1
  have hbut : But s.blk H (H.set s.blk none ++ [some ⟨false, c ++ vs⟩]) := fun d x hd hx => by
    have hd' := (List.getElem?_eq_some_iff.1 hx).1
    rw [List.getElem?_append_left (by simpa using hd'), List.getElem?_set_ne (Ne.symm hd)]; exact hx
  refine ⟨H.set s.blk none ++ [some ⟨false, c ++ vs⟩], ?_, hbut.pf h.blk g (by simp), ⟨rfl, rfl, ?_, by simp, ?_⟩, hbut, by simp⟩
  · unfold Hp.app
    rw [if_pos ⟨hl, h1, h2, hv⟩, if_neg (by omega), h.nn, h.get]
    simp only [Bool.false_eq_true, if_false]
    rw [if_pos ⟨trivial, h.off, h.len⟩]
  · exact g.length_le
  · simp only [List.length_append]; rw [Nat.add_mul, h.len, hv]
theorem own_app1 {H0 H : Hp} {s : Sl} {l : List Int} {k : IntKind} (h : Own 1 H0 H s (l.map (.int k))) (g : H0 <+: H) (n : Int) (hl : s.len < 1073741824) :
    ∃ H', H.app 1 s 1 [.int k n] = some (Sl.mk false H.length 0 (s.len + 1), H') ∧ H0 <+: H' ∧ Own 1 H0 H' (Sl.mk false H.length 0 (s.len + 1)) ((l ++ [n]).map (.int k)) ∧ But s.blk H H' ∧ H'.length = H.length + 1 := by
  have := own_app h g 1 [.int k n] (by omega) (by omega) (by omega) (by omega) rfl
  simpa using this
/-- A cell of a block of numbers is written. -/
theorem own_set {H0 H : Hp} {s : Sl} {l : List Int} {k : IntKind} (h : Own 1 H0 H s (l.map (.int k))) (g : H0 <+: H) (i : Nat) (hi : i < l.length) (n : Int) :
    ∃ H', H.sto s.blk (s.off + i) [.int k n] = some H' ∧ H0 <+: H' ∧ Own 1 H0 H' s ((l.set i n).map (.int k)) ∧ But s.blk H H' ∧ H'.length = H.length := by
  obtain ⟨H', a1, a2, a3, a4⟩ := own_sto h g i [.int k n] (by simp; omega)
  refine ⟨H', a1, a2, ?_, a4⟩
  have e : (l.set i n).map (AV.int k) = (l.map (.int k)).take i ++ [.int k n] ++ (l.map (.int k)).drop (i + 1) := by
    rw [List.set_eq_take_append_cons_drop, if_pos hi]; simp
  rw [e]; exact a3
end Go.Proofs.Ytncmneliinbjdaa.Rp
