/- Rules that are appended to a list; the rules of two neighbours that differ by a number. No conditions. -/
import Derived.Test.YtncmneliinbjdaaCf
import Derived.Test.YtncmneliinbjdaaCh
import Derived.Test.YtncmneliinbjdaaCi
set_option linter.unusedVariables false
set_option linter.unusedSimpArgs false
namespace Go.Proofs.Ytncmneliinbjdaa.Rp
open Go Go.RowKit Go.Proofs.Ytncmneliinbjdaa.Ab

/-- A list of rules over a whole block: as read. -/
structure WR (H0 H : Hp) (s : Sl) (rs : List R) : Prop where
  own : Own 3 H0 H s (rs.flatMap R.av)
  rd : ∀ i, (h : i < rs.length) → Reads .i64 H rs[i].sl rs[i].cells
  ne : ∀ i, (h : i < rs.length) → rs[i].sl.blk ≠ s.blk
  lt : ∀ i, (h : i < rs.length) → rs[i].sl.blk < H.length
/-- And with cells of its own. -/
structure WO (H0 H : Hp) (s : Sl) (rs : List R) : Prop where
  own : Own 3 H0 H s (rs.flatMap R.av)
  oc : ∀ i, (h : i < rs.length) → Own 1 H0 H rs[i].sl (rs[i].cells.map (.int .i64))
  ne : ∀ i, (h : i < rs.length) → rs[i].sl.blk ≠ s.blk
  inj : ∀ i j, (hi : i < rs.length) → (hj : j < rs.length) → i ≠ j → rs[i].sl.blk ≠ rs[j].sl.blk

theorem own_lt {sz : Nat} {H0 H : Hp} {s : Sl} {c : List AV} (h : Own sz H0 H s c) : s.blk < H.length := (List.getElem?_eq_some_iff.1 h.get).1
theorem cell_lt {H : Hp} {b o : Nat} {v : AV} (h : H.cell b o = some v) : b < H.length := by
  unfold Hp.cell at h
  split at h
  · rename_i x hx; exact (List.getElem?_eq_some_iff.1 hx).1
  · simp at h
theorem own_readsR {H0 H : Hp} {s : Sl} {rs : List R} (h : Own 3 H0 H s (rs.flatMap R.av)) (hr : ∀ i, (h : i < rs.length) → Reads .i64 H rs[i].sl rs[i].cells) : ReadsR H s rs :=
  ⟨by have := h.len; rw [flat_length] at this; omega, fun i hi => by rw [own_cell h, (flat0 rs i hi).1], fun i hi => by rw [Nat.add_assoc, own_cell h, (flat0 rs i hi).2.1], fun i hi => by rw [Nat.add_assoc, own_cell h, (flat0 rs i hi).2.2], hr⟩
theorem WR.reads {H0 H : Hp} {s : Sl} {rs : List R} (h : WR H0 H s rs) : ReadsR H s rs := own_readsR h.own h.rd
theorem WR.pf {H0 H H' : Hp} {s : Sl} {rs : List R} (h : WR H0 H s rs) (g : H <+: H') : WR H0 H' s rs :=
  ⟨own_pf h.own g, fun i hi => pf_reads g (h.rd i hi), h.ne, fun i hi => Nat.lt_of_lt_of_le (h.lt i hi) g.length_le⟩
theorem WO.pf {H0 H H' : Hp} {s : Sl} {rs : List R} (h : WO H0 H s rs) (g : H <+: H') : WO H0 H' s rs :=
  ⟨own_pf h.own g, fun i hi => own_pf (h.oc i hi) g, h.ne, h.inj⟩
theorem WO.ownR {H0 H : Hp} {s : Sl} {rs : List R} (h : WO H0 H s rs) : OwnR H0 H s rs :=
  ⟨by have := h.own.len; rw [flat_length] at this; omega, fun _ => ⟨h.own.off, h.own.blk, [], by simpa using h.own.get⟩, h.oc, h.ne, h.inj⟩
theorem own_len3 {H0 H : Hp} {s : Sl} {rs : List R} (h : Own 3 H0 H s (rs.flatMap R.av)) : s.len = rs.length := by
  have := h.len; rw [flat_length] at this; omega

theorem wr_app {H0 H : Hp} {s : Sl} {rs : List R} (h : WR H0 H s rs) (g : H0 <+: H) (hl : rs.length ≤ 1000000) (r : R) (hr : Reads .i64 H r.sl r.cells) (hn : r.sl.blk ≠ s.blk) (hlt : r.sl.blk < H.length) :
    ∃ t' H', H.app 3 s 1 r.av = some (t', H') ∧ H0 <+: H' ∧ WR H0 H' t' (rs ++ [r]) ∧ But s.blk H H' ∧ t'.blk = H.length ∧ H'.length = H.length + 1 := by
  have hlen := own_len3 h.own
  obtain ⟨H', a1, a2, a3, a4, a5⟩ := own_app h.own g 1 r.av (by omega) (by omega) (by omega) (by omega) rfl
  refine ⟨_, H', a1, a2, ⟨by simpa using a3, fun i hi => ?_, fun i hi => ?_, fun i hi => ?_⟩, a4, rfl, a5⟩
  · by_cases e : i < rs.length
    · simp only [List.getElem_append_left e]; exact a4.reads (h.ne i e) (h.rd i e)
    · have ei : i = rs.length := by simp at hi; omega
      subst ei
      simp only [List.getElem_concat_length]; exact a4.reads hn hr
  · by_cases e : i < rs.length
    · simp only [List.getElem_append_left e]; have := h.lt i e; omega
    · have ei : i = rs.length := by simp at hi; omega
      subst ei
      simp only [List.getElem_concat_length]; omega
  · by_cases e : i < rs.length
    · simp only [List.getElem_append_left e]; have := h.lt i e; omega
    · have ei : i = rs.length := by simp at hi; omega
      subst ei
      simp only [List.getElem_concat_length]; omega
theorem wo_app {H0 H : Hp} {s : Sl} {rs : List R} (h : WO H0 H s rs) (g : H0 <+: H) (hl : rs.length ≤ 1000000) (r : R) (hr : Own 1 H0 H r.sl (r.cells.map (.int .i64))) (hn : r.sl.blk ≠ s.blk) (hj : ∀ i, (h : i < rs.length) → rs[i].sl.blk ≠ r.sl.blk) :
    ∃ t' H', H.app 3 s 1 r.av = some (t', H') ∧ H0 <+: H' ∧ WO H0 H' t' (rs ++ [r]) ∧ But s.blk H H' ∧ t'.blk = H.length ∧ H'.length = H.length + 1 := by
  have hlen := own_len3 h.own
  obtain ⟨H', a1, a2, a3, a4, a5⟩ := own_app h.own g 1 r.av (by omega) (by omega) (by omega) (by omega) rfl
  have hsl : ∀ i, (hi : i < (rs ++ [r]).length) → (i < rs.length ∧ ∃ h : i < rs.length, (rs ++ [r])[i] = rs[i]) ∨ (i = rs.length ∧ (rs ++ [r])[i] = r) := by
    intro i hi
    by_cases e : i < rs.length
    · exact .inl ⟨e, e, List.getElem_append_left e⟩
    · have ei : i = rs.length := by simp at hi; omega
      subst ei
      exact .inr ⟨rfl, List.getElem_concat_length rfl _⟩
  refine ⟨_, H', a1, a2, ⟨by simpa using a3, fun i hi => ?_, fun i hi => ?_, fun i j hi hj' hij => ?_⟩, a4, rfl, a5⟩
  · rcases hsl i hi with ⟨e, e', eq⟩ | ⟨e, eq⟩
    · rw [eq]; exact a4.own (h.ne i e) (h.oc i e)
    · rw [eq]; exact a4.own hn hr
  · rcases hsl i hi with ⟨e, e', eq⟩ | ⟨e, eq⟩
    · rw [eq]; have := own_lt (h.oc i e); simp only; omega
    · rw [eq]; have := own_lt hr; simp only; omega
  · rcases hsl i hi with ⟨e, e', eq⟩ | ⟨e, eq⟩ <;> rcases hsl j hj' with ⟨f, f', fq⟩ | ⟨f, fq⟩
    · rw [eq, fq]; exact h.inj i j e f hij
    · rw [eq, fq]; exact hj i e
    · rw [eq, fq]; exact Ne.symm (hj j f)
    · omega

def apartOk (g : List Int) (d : Int) (p : Int × Int) : Bool := (mx (gv g p.1 - gv g p.2) (0 - (gv g p.1 - gv g p.2))) == d
def apartL (g : List Int) (d : Int) : List (Int × Int) → Nat → List (Int × List Int × Int)
  | [], _ => []
  | p :: ps, c => if apartOk g d p = true ∧ c < 20 then (5, [p.1, p.2], d) :: apartL g d ps (c + 1) else apartL g d ps c
theorem apartL_full (g : List Int) (d : Int) : ∀ (ps : List (Int × Int)) (c : Nat), 20 ≤ c → apartL g d ps c = []
  | [], _, _ => rfl
  | p :: ps, c, h => by rw [apartL, if_neg (by omega)]; exact apartL_full g d ps c h

/-- The variable of a pair, filled. -/
theorem pair_var (H : Hp) (a b : Int) : ∃ H7, (H ++ [some (Blk.mk false [.int .i64 0, .int .i64 0])]).sto H.length 0 [.int .i64 a, .int .i64 b] = some H7 ∧ H <+: H7 ∧ Own 1 H H7 (Sl.mk false H.length 0 2) ([a, b].map (.int .i64)) ∧ H7.length = H.length + 1 := by
  obtain ⟨H7, a1, a2, a3, a4, a5⟩ := own_sto (own_new 1 H [.int .i64 0, .int .i64 0] 2 rfl) (List.prefix_append _ _) 0 [.int .i64 a, .int .i64 b] (by simp)
  refine ⟨H7, a1, a2, a3, by rw [a5]; simp⟩

theorem implApart_l2 (rec : Rec) (k : Nat) {H0 : Hp} {s t : Sl} {g : List Int} {ps : List (Int × Int)} {d : Int} (hs : Reads .i64 H0 s g) (hg : ∀ v ∈ g, 0 ≤ v ∧ v ≤ 4) (hps : ∀ p ∈ ps, (0 ≤ p.1 ∧ p.1 < (g.length : Int)) ∧ (0 ≤ p.2 ∧ p.2 < (g.length : Int))) (hpl : ps.length ≤ 1000) :
    ∀ (j i fuel : Nat) (H : Hp) (out : Sl) (rs : List R), i + j = ps.length → j < fuel → H0 <+: H → WO H0 H out rs → rs.length ≤ 1000 → ReadsP H t ps → t.blk ≠ out.blk →
      ∃ out' rs' H', impl_ApartRules.l2 rec k fuel s d out t ps.length i H = some (.sl 3 out', H') ∧ H0 <+: H' ∧ WO H0 H' out' rs' ∧ rs'.map R.val = rs.map R.val ++ apartL g d (ps.drop i) rs.length := by
  intro j
  induction j with
  | zero =>
    intro i fuel H out rs hi hf hp ho hrl ht hne
    obtain ⟨fuel, rfl⟩ : ∃ q, fuel = q + 1 := ⟨fuel - 1, by omega⟩
    refine ⟨out, rs, H, ?_, hp, ho, by rw [List.drop_eq_nil_of_le (by omega)]; simp [apartL]⟩
    simp [impl_ApartRules.l2, impl_ApartRules.j4, show ¬ i < ps.length by omega]
  | succ j ih =>
    intro i fuel H out rs hi hf hp ho hrl ht hne
    obtain ⟨fuel, rfl⟩ : ∃ q, fuel = q + 1 := ⟨fuel - 1, by omega⟩
    have hi1 : i < ps.length := by omega
    have hlt := cell_lt (ht.c0 i hi1)
    obtain ⟨⟨p0, p1⟩, p2, p3⟩ := hps _ (List.getElem_mem hi1)
    rw [List.drop_eq_getElem_cons hi1, apartL]
    have hl0 : ldI .i64 H t.blk (t.off + i * 2) = some ps[i].1 := by unfold ldI; rw [ht.c0 i hi1]; simp [AV.toI]
    have hl1 : ldI .i64 H t.blk (t.off + i * 2 + 1) = some ps[i].2 := by unfold ldI; rw [ht.c1 i hi1]; simp [AV.toI]
    generalize ps[i] = p at *
    obtain ⟨H7, a1, a2, a3, a4⟩ := pair_var H p.1 p.2
    have r0 : ldI .i64 H7 H.length (0 + (0 : Int).toNat) = some p.1 := reads_at (own_reads a3) 0 (by simp)
    have r1 : ldI .i64 H7 H.length (0 + (1 : Int).toNat) = some p.2 := reads_at (own_reads a3) 1 (by simp)
    have g0 := gv_at (pf_reads (hp.trans a2) hs) p0 p1
    have g1 := gv_at (pf_reads (hp.trans a2) hs) p2 p3
    have b0 := hg _ (gv_mem p0 p1)
    have b1 := hg _ (gv_mem p2 p3)
    have w1 : IntKind.i64.wrap (gv g p.1 - gv g p.2) = gv g p.1 - gv g p.2 := wr (by omega) (by omega)
    have w2 : IntKind.i64.wrap (0 - (gv g p.1 - gv g p.2)) = 0 - (gv g p.1 - gv g p.2) := wr (by omega) (by omega)
    have q0 : (0 : Int) ≤ (i : Int) := by omega
    have q1 : (i : Int) < (ps.length : Int) := by omega
    have q2 : (i : Int) < (t.len : Int) := by rw [ht.len]; omega
    have q3 : p.1 < (s.len : Int) := by rw [hs.len]; exact p1
    have q4 : p.2 < (s.len : Int) := by rw [hs.len]; exact p3
    have z0 : (0 : Int) < ((2 : Nat) : Int) := by decide
    have z1 : (1 : Int) < ((2 : Nat) : Int) := by decide
    have z2 : (0 : Int) ≤ 1 := by decide
    have h4 := wrs (i := i) (by omega)
    have hlen := own_len3 ho.own
    have hout := own_lt ho.own
    cases hm : apartOk g d p with
    | true =>
      have hm' : (mx (gv g p.1 - gv g p.2) (0 - (gv g p.1 - gv g p.2))) == d := hm
      by_cases hc : rs.length < 20
      · have hc' : (out.len : Int) < 20 := by omega
        have e8 := own_new 1 H7 ([p.1, p.2].map (.int .i64)) 2 rfl
        have g8 : H <+: H7 ++ [some (Blk.mk false ([p.1, p.2].map (.int .i64)))] := a2.trans (List.prefix_append _ _)
        obtain ⟨out1, H9, c1, c2, c3, c4, c5, c6⟩ := wo_app (ho.pf g8) (hp.trans g8) (by omega) { kind := 5, sl := Sl.mk false H7.length 0 2, cells := [p.1, p.2], value := d } (own_base e8 (hp.trans a2)) (by simp only; omega) (fun i hi => by have := own_lt (ho.oc i hi); simp only; omega)
        obtain ⟨out', rs', H', d1, d2, d3, d4⟩ := ih (i + 1) fuel H9 out1 _ (by omega) (by omega) c2 c3 (by simp; omega) (c4.readsP hne (pf_readsP g8 ht)) (by rw [c5]; simp; omega)
        refine ⟨out', rs', H', ?_, d2, d3, ?_⟩
        · push_cast at d1
          simp only [R.av, List.map_cons, List.map_nil] at c1
          simp only [impl_ApartRules.l2, impl_ApartRules.j3, impl_ApartRules.j5, q0, q1, q2, q3, q4, p0, p2, z0, z1, z2, Int.le_refl, decide_true, Bool.and_self, cond_true, Int.toNat_natCast, Nat.mul_one, hl0, hl1, a1, r0, r1, g0, g1, Option.bind_some, w1, w2, hm', hc', c1, h4, d1]
        · rw [d4, if_pos ⟨rfl, hc⟩]; simp [R.val]
      · have hc' : ¬ (out.len : Int) < 20 := by omega
        obtain ⟨out', rs', H', d1, d2, d3, d4⟩ := ih (i + 1) fuel H7 out rs (by omega) (by omega) (hp.trans a2) (ho.pf a2) hrl (pf_readsP a2 ht) hne
        refine ⟨out', rs', H', ?_, d2, d3, by rw [d4, if_neg (fun h => hc h.2)]⟩
        push_cast at d1
        simp only [impl_ApartRules.l2, impl_ApartRules.j3, impl_ApartRules.j5, q0, q1, q2, q3, q4, p0, p2, z0, z1, z2, Int.le_refl, decide_true, decide_false, Bool.and_self, cond_true, cond_false, Int.toNat_natCast, Nat.mul_one, hl0, hl1, a1, r0, r1, g0, g1, Option.bind_some, w1, w2, hm', hc', h4, d1]
    | false =>
      have hm' : ((mx (gv g p.1 - gv g p.2) (0 - (gv g p.1 - gv g p.2))) == d) = false := hm
      obtain ⟨out', rs', H', d1, d2, d3, d4⟩ := ih (i + 1) fuel H7 out rs (by omega) (by omega) (hp.trans a2) (ho.pf a2) hrl (pf_readsP a2 ht) hne
      refine ⟨out', rs', H', ?_, d2, d3, by rw [d4, if_neg (fun h => by cases h.1)]⟩
      push_cast at d1
      simp only [impl_ApartRules.l2, impl_ApartRules.j3, impl_ApartRules.j5, q0, q1, q2, q3, q4, p0, p2, z0, z1, z2, Int.le_refl, decide_true, decide_false, Bool.and_self, cond_true, cond_false, Int.toNat_natCast, Nat.mul_one, hl0, hl1, a1, r0, r1, g0, g1, Option.bind_some, w1, w2, hm', h4, d1]
end Go.Proofs.Ytncmneliinbjdaa.Rp
