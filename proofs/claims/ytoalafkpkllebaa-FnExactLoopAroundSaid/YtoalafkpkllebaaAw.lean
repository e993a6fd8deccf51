/- What the plain machine returns, the program returns. No conditions. -/
import Derived.Test.YtoalafkpkllebaaAv
import Derived.Deep.LoopGhost
set_option linter.unusedVariables false
set_option linter.unusedSimpArgs false
namespace Go.Proofs.Ytoalafkpkllebaa.Ab
open Go

section
variable {P : Program} {E0 : En} {H0 : Hp} {w0 : World} {E : En} {la : Nat → Nat} {s : St} {H : Hp} {a : Act} {w : World}
variable {O : Orc} {rec : Rec} {o : Oper} {r : AV × Hp} {next : Act → World → Prop} {Q : Exit → Act → World → Prop}

theorem exOp_ok (hn : P.funcs.all (fun fn => !(fn.name == "runtime.NumGoroutine")) = true) (hrec : RecS P rec) {K : AV → St → Hp → An} (hi : Inv E0 H0 w0 E la s H a w) (h : exOp P O rec o s H K = some r) (hK : Nx E0 H0 w0 K r o a next) : o.wp P a w next Q := by
  cases ho : o.op with
  | move x => exact op_move (.inl ho) hi (by simpa only [exOp, ho] using h) hK
  | assign x => exact op_move (.inr ho) hi (by simpa only [exOp, ho] using h) hK
  | pick c x y => exact op_pick ho hi h hK
  | alloc t => exact op_alloc ho hi h hK
  | box t x => exact op_box ho hi h hK
  | build t ps => exact op_build ho hi h hK
  | buildSlice t n ps => exact op_buildSlice ho hi h hK
  | load t x => exact op_load ho hi h hK
  | store t x y => exact op_store ho hi h hK
  | nilCheck x => exact op_nilCheck ho hi h hK
  | binOp op t x y u => exact op_bin ho hi h hK
  | unOp op t x => exact op_un ho hi h hK
  | convert t u x => exact op_convert ho hi h hK
  | makeFunc f x y => exact op_makeFunc ho hi h hK
  | makeSlice t x y => exact op_makeSlice ho hi h hK
  | slice t x l m n => exact op_slice ho hi h hK
  | fieldAddr t x i => exact op_fieldAddr ho hi h hK
  | field t x i => exact op_field ho hi h hK
  | indexAddr t x y => exact op_indexAddr ho hi h hK
  | extract x i => exact op_extract ho hi h hK
  | call c => exact op_call hn hrec ho hi h hK
  | _ => simp [exOp, ho] at h

/-- The relation in which code goes on. -/
def NxS (E0 : En) (H0 : Hp) (w0 : World) (K : St → Hp → An) (r : AV × Hp) (next : Act → World → Prop) : Prop :=
  ∀ s' H' E' la' a' w', K s' H' = some r → Inv E0 H0 w0 E' la' s' H' a' w' → next a' w'

theorem Inv.setSame (hi : Inv E0 H0 w0 E la s H a w) {t : Nat} {v : AV} (h : s.tm.getD t .undef = v) (hv : v ≠ .undef) : Inv E0 H0 w0 E la ⟨s.tm.set t v, s.lo⟩ H a w := by
  refine hi.weaken (by simp) (fun i u hu => ?_) (fun i l hl => hl)
  by_cases ht : t = i
  · subst ht
    rw [List.getD_eq_getElem?_getD] at h
    cases hx : s.tm[t]? with
    | none => simp [hx] at h; exact absurd h.symm hv
    | some y =>
      simp [hx] at h
      rw [List.getElem?_set_self', hx] at hu
      simp at hu
      subst h; subst hu
      exact .inr rfl
  · rw [List.getElem?_set_ne ht] at hu
    exact .inr hu

theorem yield_ok {ops : Array Oper} (hi : Inv E0 H0 w0 E la s H a w) {j t : Nat} {b : Bool} (ht : (ops[j]?).bind (·.dst) = some t) (h : s.tm.getD t .undef = .bool b) : yielded ops a.tmps j = some b := by
  have hv := hi.tr.get t
  rw [h] at hv
  have hb := hv.bool_inv
  unfold yielded
  rw [ht]
  rw [Array.getD_eq_getD_getElem?] at hb
  cases hx : a.tmps[t]? with
  | none => simp [hx, Go.undef] at hb
  | some y => simp [hx] at hb; simp [hx, hb]

/-- One operation of a region, under its guard. -/
theorem exGd_ok (hn : P.funcs.all (fun fn => !(fn.name == "runtime.NumGoroutine")) = true) (hrec : RecS P rec) {ops : Array Oper} {i : Nat} (hoi : ops[i]? = some o) {K : St → Hp → An} (hi : Inv E0 H0 w0 E la s H a w) (h : exGd P O rec ops o s H K = some r) (hK : NxS E0 H0 w0 K r next) :
    wpOp P ops Q i next a w := by
  unfold wpOp
  rw [hoi]
  simp only
  have run : ∀ {s : St}, Inv E0 H0 w0 E la s H a w → (exOp P O rec o s H fun v s H => K (s.put o.dst v) H) = some r → o.wp P a w next Q := fun hi h =>
    exOp_ok hn hrec hi h fun v rv s' H' E' la' w' h1 h2 h3 => hK _ _ _ _ _ _ h1 (h2.put o.dst h3)
  have skip : ∀ {s : St}, Inv E0 H0 w0 E la s H a w → K (s.put o.dst (.tup [])) H = some r → next (a.put o.dst Go.undef) w := fun hi h =>
    hK _ _ _ _ _ _ h (hi.put o.dst (.tup rfl fun i v hv => by simp at hv))
  unfold exGd at h
  split at h
  · rename_i hg
    have hw : Region.wanted o (yielded ops a.tmps) = true := by simp [Region.wanted, hg]
    rw [if_pos hw]
    exact .inl (run hi h)
  · rename_i j want hg
    split at h
    · rename_i t ht
      split at h
      · rename_i b hb
        have hy := yield_ok hi ht hb
        cases b with
        | true =>
          have hi' := hi.setSame hb (by simp)
          simp only [cond_true] at h
          cases want with
          | true =>
            rw [if_pos (by simp [Region.wanted, hg, hy])]
            exact .inl (run hi' h)
          | false =>
            rw [if_neg (by simp [Region.wanted, hg, hy])]
            exact skip hi' h
        | false =>
          have hi' := hi.setSame hb (by simp)
          simp only [cond_false] at h
          cases want with
          | true =>
            rw [if_neg (by simp [Region.wanted, hg, hy])]
            exact skip hi' h
          | false =>
            rw [if_pos (by simp [Region.wanted, hg, hy])]
            exact .inl (run hi' h)
      · rename_i l hl
        have hv := hi.tr.get t
        rw [hl] at hv
        have hy : yielded ops a.tmps j = none := by
          unfold yielded
          rw [ht]
          rw [Array.getD_eq_getD_getElem?] at hv
          cases hx : a.tmps[t]? with
          | none => simp [hx]
          | some y =>
            simp [hx] at hv
            cases hv with
            | g g => cases g
            | tup h1 h2 => simp [hx]
        rw [if_neg (by simp [Region.wanted, hg, hy])]
        exact skip hi h
      · simp at h
    · simp at h

theorem exOps_ok (hn : P.funcs.all (fun fn => !(fn.name == "runtime.NumGoroutine")) = true) (hrec : RecS P rec) {ops : Array Oper} {K : St → Hp → An} (hK : NxS E0 H0 w0 K r (Q .normal)) : ∀ (l : List Oper) (k : Nat) (s : St) (H : Hp) (E : En) (la : Nat → Nat) (a : Act) (w : World),
    ops.toList.drop k = l → Inv E0 H0 w0 E la s H a w → exOps P O rec ops l s H K = some r → wpOps P ops Q (List.range' k l.length) a w
  | [], k, s, H, E, la, a, w, hl, hi, h => by
    simp only [List.length_nil, List.range'_zero, wpOps]
    exact hK _ _ _ _ _ _ h hi
  | o :: l, k, s, H, E, la, a, w, hl, hi, h => by
    have hk : k < ops.toList.length := by
      rcases Nat.lt_or_ge k ops.toList.length with h | h
      · exact h
      · rw [List.drop_eq_nil_of_le h] at hl; cases hl
    have hok : ops[k]? = some o := by
      rw [List.drop_eq_getElem_cons hk] at hl
      injection hl with h1 h2
      have : k < ops.size := by simpa using hk
      rw [Array.getElem?_eq_getElem this, ← h1]
      simp
    have hdl : ops.toList.drop (k + 1) = l := by
      rw [List.drop_eq_getElem_cons hk] at hl
      injection hl
    rw [List.length_cons, List.range'_succ, wpOps_cons]
    exact exGd_ok hn hrec hok hi h fun s' H' E' la' a' w' h1 h2 => exOps_ok hn hrec hK l (k + 1) s' H' E' la' a' w' hdl h2 h1

end

end Go.Proofs.Ytoalafkpkllebaa.Ab
