/- A law of lists of numbers, of numbers and of truth values: what the plain machine says of it, the program does. No conditions. -/
import Derived.Test.YtoalafkpkllebaaAy
set_option linter.unusedVariables false
set_option linter.unusedSimpArgs false
namespace Go.Proofs.Ytoalafkpkllebaa.Ab
open Go Go.RowKit

/-- The sizes of the memory's blocks. -/
def sizes (W : World) (r : Nat) : Nat := match W.heap[r]? with
  | some (.cells c _ _) => c.size
  | _ => 0
/-- The memory as it is when a law is called: nothing in it is written. -/
structure Start (W : World) (E : En) (H : Hp) : Prop where
  nr : E.nr = W.heap.size
  si : E.si = sizes W
  hr : HR E H W
  ro : ∀ (b : Nat) (x : Blk), H[b]? = some (some x) → x.ro = true

theorem start_nil (W : World) : Start W ⟨0, W.heap.size, fun _ => 0, sizes W⟩ [] :=
  ⟨rfl, rfl, ⟨rfl, rfl, fun b hb => absurd hb (Nat.not_lt_zero _), fun b x hb => by simp at hb, fun b b' x x' hb => by simp at hb⟩, fun b x hb => by simp at hb⟩

theorem start_add {W : World} {E : En} {H : Hp} (h : Start W E H) {k : IntKind} {a0 : Option Addr} {len0 cap0 : Nat} {zs : List Int}
    (hrow : (a0 = none ∧ len0 = 0 ∧ cap0 = 0 ∧ zs = []) ∨ ∃ x, a0 = some x ∧ len0 ≤ cap0 ∧ zs.length = cap0 ∧ (∀ i, i < zs.length → W.cell? (x.add i) = some (.int k (zs.getD i 0)))) :
    ∃ E' H' s l, EnLe E E' ∧ Start W E' H' ∧ H <+: H' ∧ GR E' (.sl 1 s) (.slice a0 len0 cap0) ∧ Reads k H' s l ∧ l.length = len0 ∧ ∀ n ∈ l, n ∈ zs := by
  rcases hrow with ⟨rfl, rfl, rfl, rfl⟩ | ⟨x, rfl, hlc, hzl, hcell⟩
  · exact ⟨E, H, ⟨true, 0, 0, 0⟩, [], h.hr.le, h, List.prefix_refl _, .slnil _ _ rfl rfl, ⟨rfl, fun i hi => absurd hi (Nat.not_lt_zero _)⟩, rfl, fun n hn => by cases hn⟩
  · by_cases hc0 : cap0 = 0
    · subst hc0
      obtain rfl : len0 = 0 := by omega
      exact ⟨E, H, ⟨false, 0, 0, 0⟩, [], h.hr.le, h, List.prefix_refl _, .slz _ _ x rfl rfl, ⟨rfl, fun i hi => absurd hi (Nat.not_lt_zero _)⟩, rfl, fun n hn => by cases hn⟩
    · have h0 := hcell 0 (by omega)
      have hadd0 : x.add 0 = x := by simp [Addr.add]
      rw [hadd0] at h0
      have hspot : x.spot = none := by
        unfold World.cell? at h0
        split at h0
        · cases hs : x.spot with
          | none => rfl
          | some q => simp [hs] at h0
        · cases h0
      obtain ⟨xb, xo, xs⟩ := x
      simp only at hspot
      subst hspot
      obtain ⟨c, e, fz, hblk⟩ : ∃ c e fz, W.heap[xb]? = some (.cells c e fz) := by
        unfold World.cell? at h0
        split at h0
        · rename_i c e fz hx; exact ⟨c, e, fz, hx⟩
        · cases h0
      have hc : ∀ i, i < zs.length → c[xo + i]? = some (.int k (zs.getD i 0)) := fun i hi => by
        have := hcell i hi
        rwa [Addr.add_mid, cell_of_row W xb _ c e fz hblk] at this
      have hsz : xo + cap0 ≤ c.size := by
        have := hc (cap0 - 1) (by omega)
        have := (Array.getElem?_eq_some_iff.1 this).1
        omega
      have hlb : xb < W.heap.size := (Array.getElem?_eq_some_iff.1 hblk).1
      have hsi : sizes W xb = c.size := by unfold sizes; rw [hblk]
      have hget : ∀ i, i < len0 → (List.replicate xo AV.undef ++ (zs.take len0).map (AV.int k))[xo + i]? = some (.int k (zs.getD i 0)) := by
        intro i hi
        rw [List.getElem?_append_right (by simp), List.length_replicate, Nat.add_sub_cancel_left, List.getElem?_map, List.getElem?_take, if_pos hi]
        have hz : i < zs.length := by omega
        rw [List.getElem?_eq_getElem hz, List.getD_eq_getElem?_getD, List.getElem?_eq_getElem hz]
        rfl
      have hle : EnLe E ⟨E.nb + 1, E.nr, fun b => if b < E.nb then E.be b else xb, E.si⟩ := ⟨Nat.le_succ _, Nat.le_refl _, h.hr.lt, fun b hb => by simp [hb], fun _ _ => rfl⟩
      have hnb := h.hr.nb
      refine ⟨⟨E.nb + 1, E.nr, fun b => if b < E.nb then E.be b else xb, E.si⟩, H ++ [some ⟨true, List.replicate xo .undef ++ (zs.take len0).map (.int k)⟩], ⟨false, E.nb, xo, len0⟩, zs.take len0, hle, ⟨h.nr, h.si, ⟨by simp [hnb], h.nr, fun b hb => ?_, fun b y hb => ?_, fun b b' y y' hb hb' hne hro => ?_⟩, fun b y hb => ?_⟩, List.prefix_append _ _, ?_, ⟨?_, fun i hi => ?_⟩, ?_, fun n hn => List.mem_of_mem_take hn⟩
      · simp only
        split
        · rename_i hb'; exact h.hr.lt b hb'
        · rw [h.nr]; exact hlb
      · by_cases hb' : b < E.nb
        · rw [List.getElem?_append_left (by omega)] at hb
          obtain ⟨c', e', fz', k1, k2, k3, k4, k5⟩ := h.hr.live b y hb
          simp only [hb', if_true]
          exact ⟨c', e', fz', k1, k2, k3, k4, fun i v hv => by obtain ⟨rv, r1, r2⟩ := k5 i v hv; exact ⟨rv, r1, r2.mono hle⟩⟩
        · have hl := (List.getElem?_eq_some_iff.1 hb).1
          simp at hl
          have eb : b = H.length := by omega
          subst eb
          simp only [List.getElem?_concat_length, Option.some.injEq] at hb
          subst hb
          simp only [hb', if_false]
          refine ⟨c, e, fz, hblk, by simp; omega, by rw [h.si, hsi], (fun hx => by cases hx), fun i v hv => ?_⟩
          by_cases hi : i < xo
          · rw [List.getElem?_append_left (by simpa using hi), List.getElem?_replicate, if_pos hi] at hv
            simp at hv; subst hv
            exact ⟨c[i], by simp, .undef _⟩
          · have hlen := (List.getElem?_eq_some_iff.1 hv).1
            simp at hlen
            have hi2 : i - xo < len0 := by omega
            have := hget (i - xo) hi2
            rw [show xo + (i - xo) = i by omega] at this
            rw [this] at hv
            simp at hv; subst hv
            refine ⟨_, ?_, .int _ _⟩
            have := hc (i - xo) (by omega)
            rw [show xo + (i - xo) = i by omega] at this
            rw [this]
            simp [List.getD_eq_getElem?_getD]
      · by_cases hb' : b < E.nb
        · rw [List.getElem?_append_left (by omega)] at hb
          have := h.ro b y hb
          rw [this] at hro; cases hro
        · have hl := (List.getElem?_eq_some_iff.1 hb).1
          simp at hl
          have eb : b = H.length := by omega
          subst eb
          simp only [List.getElem?_concat_length, Option.some.injEq] at hb
          subst hb; cases hro
      · by_cases hb' : b < E.nb
        · rw [List.getElem?_append_left (by omega)] at hb
          exact h.ro b y hb
        · have hl := (List.getElem?_eq_some_iff.1 hb).1
          simp at hl
          have eb : b = H.length := by omega
          subst eb
          simp only [List.getElem?_concat_length, Option.some.injEq] at hb
          subst hb; rfl
      · have := GR.sl (E := ⟨E.nb + 1, E.nr, fun b => if b < E.nb then E.be b else xb, E.si⟩) 1 ⟨false, E.nb, xo, len0⟩ cap0 rfl (Nat.lt_succ_self _) hlc (by
          simp only [Nat.lt_irrefl, if_false]
          rw [h.si, hsi]; omega)
        simpa using this
      · simp; omega
      · have hi' : i < len0 := by simp at hi; omega
        have := hget i hi'
        unfold Hp.cell
        rw [hnb]
        simp only [List.getElem?_concat_length]
        rw [this]
        have hz : i < zs.length := by omega
        simp [List.getD_eq_getElem?_getD, hz]
      · simp; omega

theorem start_law {P : Program} {O : FuncId → Orc} (hn : P.funcs.all (fun fn => !(fn.name == "runtime.NumGoroutine")) = true) (hmix : P.follows .mixedOrders = true) {F : FuncId} {W : World} {E : En} {H : Hp} (h : Start W E H) {avs : List AV} {rvs : List Value} (hg : GRs E avs rvs)
    (hc : ∃ k H', callF P O k F avs H = some (.bool true, H')) : Calls P F ⟨rvs⟩ W fun e W' => e = .returned (.bool true) ∧ Below W.heap.size W W' := by
  obtain ⟨k, H', hk⟩ := hc
  refine (callF_ok hn hmix O k F _ H _ H' hk E W rvs h.hr hg.length fun i u hu => ?_).mono fun e W' he => ?_
  · have key : ∀ {l : List AV} {rl : List Value}, GRs E l rl → ∀ (i : Nat) u, l[i]? = some u → ∃ ru, rl[i]? = some ru ∧ GR E u ru := by
      intro l
      induction l with
      | nil => intro rl _ i u hu; simp at hu
      | cons x l ih =>
        intro rl hgl i u hu
        cases hgl with
        | cons hx ht =>
          cases i with
          | zero => simp at hu; subst hu; exact ⟨_, rfl, hx⟩
          | succ i => simpa using ih ht i u (by simpa using hu)
    obtain ⟨ru, r1, r2⟩ := key hg i u hu
    exact ⟨ru, r1, fun la => .g r2⟩
  · obtain ⟨E', rv, rfl, h1, h2, h3⟩ := he
    refine ⟨by rw [(h1 fun _ => 0).bool_inv], ⟨h3.os, h3.tape, h3.output, ?_, fun i hi => ?_⟩⟩
    · rw [← h.hr.nr, ← h2.nr]; exact h3.le.nr
    · exact h3.fr i (by rw [h.hr.nr]; exact hi) fun b x hx hx0 => by rw [h.ro b x hx] at hx0; cases hx0
end Go.Proofs.Ytoalafkpkllebaa.Ab
