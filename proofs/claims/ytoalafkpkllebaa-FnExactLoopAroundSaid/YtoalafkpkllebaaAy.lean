/- A law of one list of bytes: what the plain machine says of it, the program does. No conditions. -/
import Derived.Test.YtoalafkpkllebaaAx
import Derived.Below
set_option linter.unusedVariables false
set_option linter.unusedSimpArgs false
namespace Go.Proofs.Ytoalafkpkllebaa.Ab
open Go Go.RowKit

/-- The slice s reads as the numbers l, of the kind k. -/
structure Reads (k : IntKind) (H : Hp) (s : Sl) (l : List Int) : Prop where
  len : s.len = l.length
  cell : ∀ i, (h : i < l.length) → H.cell s.blk (s.off + i) = some (.int k l[i])

/-- The memory as it is when a law is called. -/
theorem law_calls {P : Program} {O : FuncId → Orc} (hn : P.funcs.all (fun fn => !(fn.name == "runtime.NumGoroutine")) = true) (hmix : P.follows .mixedOrders = true) {F : FuncId} {W : World} {a0 : Option Addr} {len0 cap0 : Nat} {zs : List Int}
    (hrow : (a0 = none ∧ len0 = 0 ∧ cap0 = 0 ∧ zs = []) ∨ ∃ x, a0 = some x ∧ len0 ≤ cap0 ∧ zs.length = cap0 ∧ (∀ i, i < zs.length → W.cell? (x.add i) = some (.int .u8 (zs.getD i 0))) ∧ ∀ n ∈ zs, 0 ≤ n ∧ n ≤ 255)
    (h : ∀ H s l, Reads .u8 H s l → l.length = len0 → (∀ n ∈ l, 0 ≤ n ∧ n ≤ 255) → ∃ k H', callF P O k F [.sl 1 s] H = some (.bool true, H')) :
    Calls P F #[.slice a0 len0 cap0] W fun e W' => e = .returned (.bool true) ∧ Below W.heap.size W W' := by
  have fin : ∀ (E : En) (H : Hp) (s : Sl) (l : List Int), HR E H W → (∀ (b : Nat) (x : Blk), H[b]? = some (some x) → x.ro = true) → GR E (.sl 1 s) (.slice a0 len0 cap0) → Reads .u8 H s l → l.length = len0 → (∀ n ∈ l, 0 ≤ n ∧ n ≤ 255) →
      Calls P F #[.slice a0 len0 cap0] W fun e W' => e = .returned (.bool true) ∧ Below W.heap.size W W' := by
    intro E H s l hr hro hg hrd hl hb
    obtain ⟨k, H', hk⟩ := h H s l hrd hl hb
    refine (callF_ok hn hmix O k F _ H _ H' hk E W [.slice a0 len0 cap0] hr rfl fun i u hu => ?_).mono fun e W' he => ?_
    · cases i with
      | zero => simp at hu; subst hu; exact ⟨_, rfl, fun la => .g hg⟩
      | succ i => simp at hu
    · obtain ⟨E', rv, rfl, h1, h2, h3⟩ := he
      refine ⟨by rw [(h1 fun _ => 0).bool_inv], ⟨h3.os, h3.tape, h3.output, ?_, fun i hi => ?_⟩⟩
      · rw [← hr.nr, ← h2.nr]; exact h3.le.nr
      · exact h3.fr i (by rw [hr.nr]; exact hi) fun b x hx hx0 => by rw [hro b x hx] at hx0; cases hx0
  have empty : ∀ (s : Sl), s.len = 0 → len0 = 0 → (∀ E, GR E (.sl 1 s) (.slice a0 len0 cap0)) → Calls P F #[.slice a0 len0 cap0] W fun e W' => e = .returned (.bool true) ∧ Below W.heap.size W W' := by
    intro s hs h0 hg
    refine fin ⟨0, W.heap.size, fun _ => 0, fun _ => 0⟩ [] s [] ⟨rfl, rfl, fun b hb => absurd hb (Nat.not_lt_zero _), fun b x hb => by simp at hb, fun b b' x x' hb => by simp at hb⟩ (fun b x hb => by simp at hb) (hg _) ⟨hs, fun i hi => absurd hi (Nat.not_lt_zero _)⟩ h0.symm (fun n hn => by cases hn)
  rcases hrow with ⟨rfl, rfl, rfl, rfl⟩ | ⟨x, rfl, hlc, hzl, hcell, hwf⟩
  · exact empty ⟨true, 0, 0, 0⟩ rfl rfl fun E => .slnil _ _ rfl rfl
  · by_cases hc0 : cap0 = 0
    · subst hc0
      obtain rfl : len0 = 0 := by omega
      exact empty ⟨false, 0, 0, 0⟩ rfl rfl fun E => .slz _ _ x rfl rfl
    · have h0 := hcell 0 (by omega)
      have hadd0 : x.add 0 = x := by simp [Addr.add]
      rw [hadd0] at h0
      have hspot : x.spot = none := by
        unfold World.cell? at h0
        split at h0
        · cases hs : x.spot with
          | none => rfl
          | some q => simp [hs] at h0
        · cases h0
      obtain ⟨xb, xo, xs⟩ := x
      simp only at hspot
      subst hspot
      obtain ⟨c, e, fz, hblk⟩ : ∃ c e fz, W.heap[xb]? = some (.cells c e fz) := by
        unfold World.cell? at h0
        split at h0
        · rename_i c e fz hx; exact ⟨c, e, fz, hx⟩
        · cases h0
      have hc : ∀ i, i < zs.length → c[xo + i]? = some (.int .u8 (zs.getD i 0)) := fun i hi => by
        have := hcell i hi
        rwa [Addr.add_mid, cell_of_row W xb _ c e fz hblk] at this
      have hsz : xo + cap0 ≤ c.size := by
        have := hc (cap0 - 1) (by omega)
        have := (Array.getElem?_eq_some_iff.1 this).1
        omega
      have hlb : xb < W.heap.size := (Array.getElem?_eq_some_iff.1 hblk).1
      have hget : ∀ i, i < len0 → (List.replicate xo AV.undef ++ (zs.take len0).map (AV.int .u8))[xo + i]? = some (.int .u8 (zs.getD i 0)) := by
        intro i hi
        rw [List.getElem?_append_right (by simp), List.length_replicate, Nat.add_sub_cancel_left, List.getElem?_map, List.getElem?_take, if_pos hi]
        have hz : i < zs.length := by omega
        rw [List.getElem?_eq_getElem hz, List.getD_eq_getElem?_getD, List.getElem?_eq_getElem hz]
        rfl
      refine fin ⟨1, W.heap.size, fun _ => xb, fun _ => c.size⟩ [some ⟨true, List.replicate xo .undef ++ (zs.take len0).map (.int .u8)⟩] ⟨false, 0, xo, len0⟩ (zs.take len0) ⟨rfl, rfl, fun b hb => hlb, fun b y hb => ?_, fun b b' y y' hb hb' hne => ?_⟩ (fun b y hb => ?_) (.sl 1 ⟨false, 0, xo, len0⟩ cap0 rfl (Nat.zero_lt_one) hlc (by show xo + cap0 * 1 ≤ c.size; omega)) ⟨?_, fun i hi => ?_⟩ ?_ (fun n hn => hwf n (List.mem_of_mem_take hn))
      · cases b with
        | zero =>
          simp only [List.getElem?_cons_zero, Option.some.injEq] at hb
          subst hb
          refine ⟨c, e, fz, hblk, by simp; omega, rfl, (fun hx => by cases hx), fun i v hv => ?_⟩
          by_cases hi : i < xo
          · rw [List.getElem?_append_left (by simpa using hi), List.getElem?_replicate, if_pos hi] at hv
            simp at hv; subst hv
            exact ⟨c[i], by simp, .undef _⟩
          · have hlen := (List.getElem?_eq_some_iff.1 hv).1
            simp at hlen
            have hi2 : i - xo < len0 := by omega
            have := hget (i - xo) hi2
            rw [show xo + (i - xo) = i by omega] at this
            rw [this] at hv
            simp at hv; subst hv
            refine ⟨_, ?_, .int _ _⟩
            have := hc (i - xo) (by omega)
            rw [show xo + (i - xo) = i by omega] at this
            rw [this]
            simp [List.getD_eq_getElem?_getD]
        | succ b => simp at hb
      · cases b <;> cases b' <;> simp at hb hb' <;> exact absurd rfl hne
      · cases b with
        | zero => simp at hb; subst hb; rfl
        | succ b => simp at hb
      · simp; omega
      · have hi' : i < len0 := by simp at hi; omega
        have := hget i hi'
        unfold Hp.cell
        simp only [List.getElem?_cons_zero]
        rw [this]
        have hz : i < zs.length := by omega
        simp [List.getD_eq_getElem?_getD, hz]
      · simp; omega

end Go.Proofs.Ytoalafkpkllebaa.Ab
