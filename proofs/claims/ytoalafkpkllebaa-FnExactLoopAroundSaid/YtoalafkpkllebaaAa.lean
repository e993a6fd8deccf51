/- A law of a list of truth values: what the plain machine says of it, the program does. No conditions. -/
import Derived.Test.YtoalafkpkllebaaAz
set_option linter.unusedVariables false
set_option linter.unusedSimpArgs false
namespace Go.Proofs.Ytoalafkpkllebaa.Ab
open Go Go.RowKit

/-- The slice s reads as the truth values l. -/
structure ReadsB (H : Hp) (s : Sl) (l : List Bool) : Prop where
  len : s.len = l.length
  cell : ∀ i, (h : i < l.length) → H.cell s.blk (s.off + i) = some (.bool l[i])

theorem start_addB {W : World} {E : En} {H : Hp} (h : Start W E H) {a0 : Option Addr} {len0 cap0 : Nat}
    (hrow : (a0 = none ∧ len0 = 0 ∧ cap0 = 0) ∨ ∃ (x : Addr) (B : Nat → Bool), a0 = some x ∧ len0 ≤ cap0 ∧ (∀ i, i < cap0 → W.cell? (x.add i) = some (.bool (B i)))) :
    ∃ E' H' s l, EnLe E E' ∧ Start W E' H' ∧ H <+: H' ∧ GR E' (.sl 1 s) (.slice a0 len0 cap0) ∧ ReadsB H' s l ∧ l.length = len0 := by
  rcases hrow with ⟨rfl, rfl, rfl⟩ | ⟨x, B, rfl, hlc, hcell⟩
  · exact ⟨E, H, ⟨true, 0, 0, 0⟩, [], h.hr.le, h, List.prefix_refl _, .slnil _ _ rfl rfl, ⟨rfl, fun i hi => absurd hi (Nat.not_lt_zero _)⟩, rfl⟩
  · by_cases hc0 : cap0 = 0
    · subst hc0
      obtain rfl : len0 = 0 := by omega
      exact ⟨E, H, ⟨false, 0, 0, 0⟩, [], h.hr.le, h, List.prefix_refl _, .slz _ _ x rfl rfl, ⟨rfl, fun i hi => absurd hi (Nat.not_lt_zero _)⟩, rfl⟩
    · have h0 := hcell 0 (by omega)
      have hadd0 : x.add 0 = x := by simp [Addr.add]
      rw [hadd0] at h0
      have hspot : x.spot = none := by
        unfold World.cell? at h0
        split at h0
        · cases hs : x.spot with
          | none => rfl
          | some q => simp [hs] at h0
        · cases h0
      obtain ⟨xb, xo, xs⟩ := x
      simp only at hspot
      subst hspot
      obtain ⟨c, e, fz, hblk⟩ : ∃ c e fz, W.heap[xb]? = some (.cells c e fz) := by
        unfold World.cell? at h0
        split at h0
        · rename_i c e fz hx; exact ⟨c, e, fz, hx⟩
        · cases h0
      have hc : ∀ i, i < cap0 → c[xo + i]? = some (.bool (B i)) := fun i hi => by
        have := hcell i hi
        rwa [Addr.add_mid, cell_of_row W xb _ c e fz hblk] at this
      have hsz : xo + cap0 ≤ c.size := by
        have := hc (cap0 - 1) (by omega)
        have := (Array.getElem?_eq_some_iff.1 this).1
        omega
      have hlb : xb < W.heap.size := (Array.getElem?_eq_some_iff.1 hblk).1
      have hsi : sizes W xb = c.size := by unfold sizes; rw [hblk]
      have hget : ∀ i, i < len0 → (List.replicate xo AV.undef ++ ((List.range len0).map B).map AV.bool)[xo + i]? = some (.bool (B i)) := by
        intro i hi
        rw [List.getElem?_append_right (by simp), List.length_replicate, Nat.add_sub_cancel_left, List.getElem?_map, List.getElem?_map, List.getElem?_range hi]
        rfl
      have hle : EnLe E ⟨E.nb + 1, E.nr, fun b => if b < E.nb then E.be b else xb, E.si⟩ := ⟨Nat.le_succ _, Nat.le_refl _, h.hr.lt, fun b hb => by simp [hb], fun _ _ => rfl⟩
      have hnb := h.hr.nb
      refine ⟨⟨E.nb + 1, E.nr, fun b => if b < E.nb then E.be b else xb, E.si⟩, H ++ [some ⟨true, List.replicate xo .undef ++ ((List.range len0).map B).map .bool⟩], ⟨false, E.nb, xo, len0⟩, (List.range len0).map B, hle, ⟨h.nr, h.si, ⟨by simp [hnb], h.nr, fun b hb => ?_, fun b y hb => ?_, fun b b' y y' hb hb' hne hro => ?_⟩, fun b y hb => ?_⟩, List.prefix_append _ _, ?_, ⟨?_, fun i hi => ?_⟩, ?_⟩
      · simp only
        split
        · rename_i hb'; exact h.hr.lt b hb'
        · rw [h.nr]; exact hlb
      · by_cases hb' : b < E.nb
        · rw [List.getElem?_append_left (by omega)] at hb
          obtain ⟨c', e', fz', k1, k2, k3, k4, k5⟩ := h.hr.live b y hb
          simp only [hb', if_true]
          exact ⟨c', e', fz', k1, k2, k3, k4, fun i v hv => by obtain ⟨rv, r1, r2⟩ := k5 i v hv; exact ⟨rv, r1, r2.mono hle⟩⟩
        · have hl := (List.getElem?_eq_some_iff.1 hb).1
          simp at hl
          have eb : b = H.length := by omega
          subst eb
          simp only [List.getElem?_concat_length, Option.some.injEq] at hb
          subst hb
          simp only [hb', if_false]
          refine ⟨c, e, fz, hblk, by simp; omega, by rw [h.si, hsi], (fun hx => by cases hx), fun i v hv => ?_⟩
          by_cases hi : i < xo
          · rw [List.getElem?_append_left (by simpa using hi), List.getElem?_replicate, if_pos hi] at hv
            simp at hv; subst hv
            exact ⟨c[i], by simp, .undef _⟩
          · have hlen := (List.getElem?_eq_some_iff.1 hv).1
            simp at hlen
            have hi2 : i - xo < len0 := by omega
            have := hget (i - xo) hi2
            rw [show xo + (i - xo) = i by omega] at this
            rw [this] at hv
            simp at hv; subst hv
            refine ⟨_, ?_, .bool _⟩
            have := hc (i - xo) (by omega)
            rw [show xo + (i - xo) = i by omega] at this
            exact this
      · by_cases hb' : b < E.nb
        · rw [List.getElem?_append_left (by omega)] at hb
          have := h.ro b y hb
          rw [this] at hro; cases hro
        · have hl := (List.getElem?_eq_some_iff.1 hb).1
          simp at hl
          have eb : b = H.length := by omega
          subst eb
          simp only [List.getElem?_concat_length, Option.some.injEq] at hb
          subst hb; cases hro
      · by_cases hb' : b < E.nb
        · rw [List.getElem?_append_left (by omega)] at hb
          exact h.ro b y hb
        · have hl := (List.getElem?_eq_some_iff.1 hb).1
          simp at hl
          have eb : b = H.length := by omega
          subst eb
          simp only [List.getElem?_concat_length, Option.some.injEq] at hb
          subst hb; rfl
      · have := GR.sl (E := ⟨E.nb + 1, E.nr, fun b => if b < E.nb then E.be b else xb, E.si⟩) 1 ⟨false, E.nb, xo, len0⟩ cap0 rfl (Nat.lt_succ_self _) hlc (by
          simp only [Nat.lt_irrefl, if_false]
          rw [h.si, hsi]; omega)
        simpa using this
      · simp
      · have hi' : i < len0 := by simpa using hi
        have := hget i hi'
        unfold Hp.cell
        rw [hnb]
        simp only [List.getElem?_concat_length]
        rw [this]
        simp
      · simp
end Go.Proofs.Ytoalafkpkllebaa.Ab
