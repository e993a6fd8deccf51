/- The plain machine's operations do what the program's do: literals, slices, calls; and all of them. No conditions. -/
import Derived.Test.YtoalafkpkllebaaAs
import Derived.Great.BuildSlice
set_option linter.unusedVariables false
set_option linter.unusedSimpArgs false
namespace Go.Proofs.Ytoalafkpkllebaa.Ab
open Go

section
variable {P : Program} {E0 : En} {H0 : Hp} {w0 : World} {E : En} {la : Nat → Nat} {s : St} {H : Hp} {a : Act} {w : World}
variable {O : Orc} {rec : Rec} {o : Oper} {K : AV → St → Hp → An} {r : AV × Hp} {next : Act → World → Prop} {Q : Exit → Act → World → Prop}

/-- The parts of a literal. -/
theorem parts_ok (hi : Inv E0 H0 w0 E la s H a w) (ty : Nat → TypeId) (parts : Array (Nat × Operand)) :
    ((parts.map fun (i, x) => (i, a.eval x)).toList).length = (parts.toList.map fun p => (p.1, fixN P (ty p.1) (s.ev p.2))).length ∧
    ∀ (i : Nat) x, (parts.toList.map fun p => (p.1, fixN P (ty p.1) (s.ev p.2)))[i]? = some x → ∃ y, ((parts.map fun (i, x) => (i, a.eval x)).toList)[i]? = some y ∧ y.1 = x.1 ∧ VR E la x.2 y.2 := by
  refine ⟨by simp, fun i x hx => ?_⟩
  simp only [List.getElem?_map, Option.map_eq_some_iff] at hx
  obtain ⟨p, h1, h2⟩ := hx
  subst h2
  refine ⟨(p.1, a.eval p.2), ?_, rfl, fixN_vr _ (hi.ev p.2)⟩
  simp only [Array.toList_map, List.getElem?_map, h1]
  rfl

theorem places_ok : ∀ (fs : List Field), fs.all (fun f => (P.info? f.type).isSome) = true → fs.mapM (fun f => (P.info? f.type).map fun i => (f.offset, i.size)) = some (fs.map fun f => (f.offset, szOf P f.type))
  | [], _ => rfl
  | f :: fs, h => by
    simp only [List.all_cons, Bool.and_eq_true] at h
    obtain ⟨j, hj⟩ := Option.isSome_iff_exists.1 h.1
    simp [places_ok fs h.2, hj, szOf]

theorem op_build {t : TypeId} {parts : Array (Nat × Operand)} (ho : o.op = .build t parts) (hi : Inv E0 H0 w0 E la s H a w) (h : exOp P O rec o s H K = some r) (hK : Nx E0 H0 w0 K r o a next) : o.wp P a w next Q := by
  simp only [exOp, ho] at h
  obtain ⟨l', h0, h⟩ := Option.bind_eq_some_iff.1 h
  unfold builtV at h0
  obtain ⟨l, h1, h0⟩ := Option.bind_eq_some_iff.1 h0
  obtain ⟨it, z, hit, hz, hs, hg, hc⟩ := zc_ok (E := E) h1
  split at h0
  · rename_i n e hu
    split at h0
    · rename_i hie
      obtain ⟨j, hj⟩ := Option.isSome_iff_exists.1 hie
      obtain ⟨hl, hp⟩ := parts_ok (P := P) hi (fun _ => e) parts
      obtain ⟨rl, k1, k2⟩ := lay_ok (rl := z.cells) hg hl hp h0
      refine wp_val (w' := w) (rv := .agg rl) ?_ (hK _ _ _ _ _ _ _ h hi (.agg k2))
      have hb : P.built t (parts.map fun (i, x) => (i, a.eval x)).toList = some rl := by
        unfold Program.built
        simp only [hit, hu, hz, hj]
        simpa [szOf, hj] using k1
      simp only [execOp, ho, Sem.run_bind, run_build w t _ rl hb, Result.andThen_ok, Sem.run_pure]
    · simp at h0
  · obtain ⟨fs, hfs, h0⟩ := Option.bind_eq_some_iff.1 h0
    split at h0
    · rename_i hall
      have hu : P.underlying t = some (.struct fs) := by
        unfold fields at hfs
        split at hfs
        · simp at hfs; subst hfs; assumption
        · simp at hfs
      obtain ⟨hl, hp⟩ := parts_ok (P := P) hi (fun i => (fs[i]?).elim 0 (·.type)) parts
      obtain ⟨rl, k1, k2⟩ := lay_ok (rl := z.cells) hg hl hp h0
      have hpl : (fun (i : Nat) => (fs[i]?).map fun (f : Field) => (f.offset, szOf P f.type)) = fun (i : Nat) => (fs.toList.map fun (f : Field) => (f.offset, szOf P f.type)).toArray[i]? := by
        funext i
        simp
      rw [hpl] at k1
      refine wp_val (w' := w) (rv := .agg rl) ?_ (hK _ _ _ _ _ _ _ h hi (.agg k2))
      have hb : P.built t (parts.map fun (i, x) => (i, a.eval x)).toList = some rl := by
        unfold Program.built
        simp only [hit, hu, hz, places_ok fs.toList hall]
        exact k1
      simp only [execOp, ho, Sem.run_bind, run_build w t _ rl hb, Result.andThen_ok, Sem.run_pure]
    · simp at h0

theorem put_len {l l' : List AV} {o : Nat} {vs : List AV} (h : put l o vs = some l') : l'.length = l.length := by
  unfold put at h
  split at h
  · simp at h; subst h; simp; omega
  · simp at h
theorem lay_len {place : Nat → Option (Nat × Nat)} : ∀ {parts : List (Nat × AV)} {l l' : List AV}, lay place l parts = some l' → l'.length = l.length
  | [], l, l', h => by simp [lay] at h; rw [h]
  | (i, v) :: parts, l, l', h => by
    simp only [lay] at h
    obtain ⟨p, _, h⟩ := Option.bind_eq_some_iff.1 h
    split at h
    · obtain ⟨m, h1, h⟩ := Option.bind_eq_some_iff.1 h
      rw [lay_len h, put_len h1]
    · simp at h
theorem flat_get {α : Type} (L : List α) (hk : 0 < L.length) : ∀ (n i : Nat), i < n * L.length → (List.replicate n L).flatten[i]? = L[i % L.length]?
  | 0, i, h => by omega
  | n + 1, i, h => by
    rw [List.replicate_succ, List.flatten_cons]
    by_cases hi : i < L.length
    · rw [List.getElem?_append_left hi, Nat.mod_eq_of_lt hi]
    · rw [List.getElem?_append_right (by omega), flat_get L hk n (i - L.length) (by rw [Nat.add_mul] at h; omega), Nat.mod_eq_sub_mod (by omega : L.length ≤ i)]
theorem flat_len {α : Type} (L : List α) (n : Nat) : (List.replicate n L).flatten.length = n * L.length := by simp
theorem made_ok (z : Value) (n k : Nat) (hk : z.cells.size = k) (hp : 0 < k) : ((List.replicate n z.cells.toList).flatten).toArray = (Array.range (n * k)).map (z.cells[· % z.cells.size]!) := by
  apply Array.ext'
  apply List.ext_getElem?
  intro i
  by_cases hi : i < n * k
  · rw [List.toList_toArray, flat_get _ (by simpa [hk] using hp) n i (by simpa [hk] using hi)]
    have hm : i % k < z.cells.size := by rw [hk]; exact Nat.mod_lt _ hp
    simp [hi, hk]
    exact (Array.getElem?_eq_getElem hm).trans (by rw [getElem!_pos z.cells _ hm])
  · rw [List.getElem?_eq_none (by simp [hk]; omega), List.getElem?_eq_none (by simp; omega)]

theorem op_buildSlice {t : TypeId} {n : Nat} {parts : Array (Nat × Operand)} (ho : o.op = .buildSlice t n parts) (hi : Inv E0 H0 w0 E la s H a w) (h : exOp P O rec o s H K = some r) (hK : Nx E0 H0 w0 K r o a next) : o.wp P a w next Q := by
  simp only [exOp, ho] at h
  split at h
  · rename_i e hu
    split at h
    · rename_i hb
      obtain ⟨z, hz, h⟩ := Option.bind_eq_some_iff.1 h
      split at h
      · rename_i hzl
        obtain ⟨l, h2, h⟩ := Option.bind_eq_some_iff.1 h
        obtain ⟨it, zv, hit, hzv, hs, hg, hc⟩ := zc_ok (E := E) hz
        have hsz : szOf P e = it.size := by simp [szOf, hit]
        obtain ⟨hl, hp⟩ := parts_ok (P := P) hi (fun _ => e) parts
        have hgl := hg.flat n
        obtain ⟨rl, k1, k2⟩ := lay_ok (rl := ((List.replicate n zv.cells.toList).flatten).toArray) (by simpa using hgl) hl hp h2
        rw [made_ok zv n it.size hs (by omega)] at k1
        have hcs : rl.size = n * it.size := by
          have e1 := k2.length
          have e2 := lay_len h2
          rw [flat_len, hzl] at e2
          simp at e1
          rw [e1, e2, hsz]
        refine wp_val ?_ (newMem_ok hi h rl e k2 (rg := fun b => .slice (some ⟨b, 0, none⟩) n n) (fun E' b hb' hsi => ?_) (fun E' la' t => .ls _ t n) hK)
        · have hrun : (Instr.buildSlice t n (parts.map fun (i, x) => (i, a.eval x))).run P w = .ok (.slice (some ⟨w.heap.size, 0, none⟩) n n) (w.alloc (.cells rl e)) := by
            rw [hsz] at k1 hb
            by_cases hn : n = 0
            · subst hn
              simp only [Nat.zero_mul, Array.range_zero', Array.map_empty] at k1
              simp [Instr.buildSlice, run_underlying hu, run_sz hit, hsz, newRow, k1]
              rw [show (Array.map (fun _ => (default : Value)) (Array.range 0)) = #[] from by simp [Array.range_zero']]
              simp only [Array.toList_map] at k1
              rw [k1]
              simp
              try rfl
            · exact run_buildSlice (P := P) w t e n _ rl it zv hu hit hzv (by omega) (by
                have : 0 < n * it.size := Nat.mul_pos (by omega) hb.2
                omega) k1
          simp only [execOp, ho, Sem.run_bind, hrun, Result.andThen_ok, Sem.run_pure]
        · have g := GR.sl (E := E') (szOf P e) ⟨false, b, 0, n⟩ n rfl hb' (Nat.le_refl _) (by
            show 0 + _ * _ ≤ E'.si (E'.be b)
            rw [hsi, hcs, hsz]; omega)
          exact g
      · simp at h
    · simp at h
  · simp at h
end

end Go.Proofs.Ytoalafkpkllebaa.Ab
