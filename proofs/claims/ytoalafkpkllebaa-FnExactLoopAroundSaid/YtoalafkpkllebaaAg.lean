/- An operation that can run next is brought to the front. No conditions. -/
import Derived.Test.YtoalafkpkllebaaAf
set_option linter.unusedVariables false
set_option linter.unusedSimpArgs false
namespace Go.Proofs.Ytoalafkpkllebaa.Ab
open Go

section
variable {P : Program} {O : Orc} {rec : Rec} {ops : Array Oper} {b : Array Nat} {r : AV × Hp} {K : St → Hp → An}

theorem Looks.put {o : Oper} {s : St} {d : Option Tmp} {v : AV} {c : Option (Nat × List AV)} (h : ∀ t, d = some t → t ∉ o.looksAt ops) : Looks ops o s ((s.app c).put d v) := by
  intro t ht
  rw [put_tm, app_tm, if_neg]
  rintro ⟨h1, _⟩
  exact h t h1 ht
theorem Looks.symm {o : Oper} {s s' : St} (h : Looks ops o s s') : Looks ops o s' s := fun t ht => (h t ht).symm

/-- The slot that an operation writes speaks of no variable of the call before it runs. -/
def NL (o : Oper) (s : St) : Prop := ∀ d, o.dst = some d → (s.tm.getD d .undef).key = none

theorem wt_load {o : Oper} {s : St} {H H2 : Hp} {m : Nat} (h : ∀ t, (wt P m o s H).ok t H2 = true → LdS P o s H H2) : True := trivial
theorem wt_LdS {o : Oper} {s : St} {H H2 : Hp} {m : Nat} {t : Option Nat} (h : (wt P m o s H).ok t H2 = true) : LdS P o s H H2 := by
  intro ty a bb p ho hp j hj
  unfold Wt.ok wt at h
  rw [Bool.and_eq_true] at h
  have h2 := h.2
  simp only [ho, hp] at h2
  exact stableB_eq h2 j hj
theorem wt_keys {o : Oper} {s : St} {H H2 : Hp} {m : Nat} {t : Nat} (h : (wt P m o s H).ok (some t) H2 = true) : t ∉ opKeys o s := by
  unfold Wt.ok wt at h
  rw [Bool.and_eq_true] at h
  simpa using h.1
theorem wt_le {o : Oper} {s : St} {H H2 : Hp} {m : Nat} (hl : LdS P o s H H2) : ∀ t H', (wt P m o s H).ok t H' = true → (wt P m o s H2).ok t H' = true := by
  intro t H' h
  unfold Wt.ok wt at h ⊢
  rw [Bool.and_eq_true] at h ⊢
  refine ⟨h.1, ?_⟩
  have h2 := h.2
  cases ho : o.op with
  | load ty a =>
    simp only [ho] at h2 ⊢
    cases hp : s.ev a with
    | ptr bb p =>
      simp only [hp] at h2 ⊢
      rw [stableB_congr (hl ty a bb p ho hp)]
      exact h2
    | _ => rfl
  | _ => rfl

/-- Two neighbours change places. -/
theorem exD_swap {m i : Nat} {om oi : Oper} {l : List Nat} {W : List Wt} {s : St} {H : Hp} (hm : ops[m]? = some om) (hi : ops[i]? = some oi) (hlm : light O om = true) (hap : om.apart ops oi = true) (hmi : anc b m i = false)
    (hnm : NL om s) (h : exD P O rec ops b (m :: i :: l) W s H K = some r) : exD P O rec ops b (i :: m :: l) W s H K = some r := by
  obtain ⟨a1, a2, a3⟩ := Oper.apart_spec hap
  simp only [exD, chk_eq, hm, hi, hlm, cond_true] at h ⊢
  obtain ⟨v, c, h1, c1, vk, lk, rm⟩ := gl_ok hlm h
  have cd : ∀ t l', c = some (t, l') → om.dst = some t := fun t l' e => (c1 t l' e).1
  have cf : ∀ t l', c = some (t, l') → ∀ u, (s.tm.getD u .undef).key ≠ some t := fun t l' e => fresh_iff.1 (c1 t l' e).2.1
  -- the later operation sees the same before the earlier one
  have L1 : Looks ops oi s ((s.app c).put om.dst v) := Looks.put a1
  have keys1 := opKeys_same (o := oi) (ops := ops) L1
  have lo1 : ∀ t ∈ opKeys oi s, ((s.app c).put om.dst v).getLo t = s.getLo t := by
    intro t ht
    rw [put_getLo]
    refine app_getLo s c t fun l' e => ?_
    obtain ⟨u, _, k2⟩ := key_slot (ops := ops) ht
    exact cf t l' e u k2
  cases hli : light O oi with
  | true =>
    simp only [hli, cond_true] at h1 ⊢
    obtain ⟨v', c', h2, c1', vk', lk', ri⟩ := gl_ok hli h1
    have cd' : ∀ t l', c' = some (t, l') → oi.dst = some t := fun t l' e => (c1' t l' e).1
    have f0 : ∀ t l', c' = some (t, l') → ∀ u, (s.tm.getD u .undef).key ≠ some t := by
      intro t l' e u
      have f1 := fresh_iff.1 (c1' t l' e).2.1 u
      rw [put_tm, app_tm] at f1
      split at f1
      · rename_i hu
        rw [hnm u hu.1]
        simp
      · exact f1
    rw [keys1] at vk'
    rw [ri s H _ L1.symm (fun t ht => by rw [keys1] at ht; exact (lo1 t ht).symm) (fun ty a bb p _ _ j _ => rfl) (fun d l' e => ⟨fresh_iff.2 (f0 d l' e), by
      have := (c1' d l' e).2.2
      rwa [put_lo, app_lo_len] at this⟩)]
    -- the earlier one behind it
    have L2 : Looks ops om s ((s.app c').put oi.dst v') := Looks.put a3
    rw [rm _ H _ L2 (fun t ht => by
      rw [put_getLo]
      refine app_getLo s c' t fun l' e => ?_
      obtain ⟨u, _, k2⟩ := key_slot (ops := ops) ht
      exact f0 t l' e u k2) (fun ty a bb p _ _ j _ => rfl) (fun d l' e => ⟨fresh_iff.2 fun u => by
        rw [put_tm, app_tm]
        split
        · rename_i hu
          intro hk
          rcases vk' d hk with hk | ⟨l'', hk⟩
          · obtain ⟨q, _, k2⟩ := key_slot (ops := ops) hk
            exact cf d l' e q k2
          · exact a2 d (cd d l' e) (cd' d l'' hk)
        · exact cf d l' e u, by
        rw [put_lo, app_lo_len]; exact (c1 d l' e).2.2⟩)]
    have e1 : ((((s.app c').put oi.dst v').app c).put om.dst v) = ((((s.app c).put om.dst v).app c').put oi.dst v') := by
      rw [app_put, app_put, put_put _ _ _ a2]
      congr 2
      exact app_app s fun t l' m' e1 e2 => a2 t (cd t m' e2) (cd' t l' e1)
    rw [e1]
    refine exD_mono l h2 fun w' hw' => ?_
    cases hw' with
    | head => exact ⟨wt P m om s H, .tail _ (.head _), by rw [wt_same L2], fun t H' hh => by rw [wt_same L2]; exact hh⟩
    | tail _ hw' =>
      cases hw' with
      | head => exact ⟨wt P i oi ((s.app c).put om.dst v) H, .head _, by rw [wt_same L1], fun t H' hh => by rwa [wt_same L1] at hh⟩
      | tail _ hw' => exact ⟨w', .tail _ (.tail _ hw'), rfl, fun t H' hh => hh⟩
  | false =>
    simp only [hli, cond_false] at h1 ⊢
    obtain ⟨v', e, H1, h2, vk', ek, ri⟩ := gh_ok hli h1
    have et : touch P oi ((s.app c).put om.dst v) = touch P oi s := touch_same L1
    rw [et] at ek
    rw [ri s _ L1.symm (fun t ht => by rw [keys1] at ht; exact (lo1 t ht).symm)]
    cases hall : ((wt P m om s H :: W).all fun w => anc b w.i i || w.ok (touch P oi ((s.app c).put om.dst v)) H1) with
    | false => simp [hall] at h2
    | true =>
      simp only [hall, cond_true] at h2
      rw [et] at hall
      simp only [List.all_cons, Bool.and_eq_true] at hall
      have hok : (wt P m om s H).ok (touch P oi s) H1 = true := by
        have h0 := hall.1
        rw [show (wt P m om s H).i = m from rfl, hmi, Bool.false_or] at h0
        exact h0
      have hall2 : (W.all fun w => anc b w.i i || w.ok (touch P oi s) H1) = true := hall.2
      simp only [hall2, cond_true]
      have hld : LdS P om s H H1 := wt_LdS hok
      have hks : ∀ t, e.key = some t → t ∉ opKeys om s := fun t ht => by
        have := ek t ht
        rw [this] at hok
        exact wt_keys hok
      -- the earlier one behind it
      have L2 : Looks ops om s ((s.eff e).put oi.dst v') := by
        intro t ht
        rw [put_tm, if_neg (fun hh => a3 t hh.1 ht)]
        refine eff_tm s e t fun q hq hk => ?_
        exact hks q (by rw [hq]; rfl) (lk t ht q hk)
      rw [rm _ H1 _ L2 (fun t ht => by
        rw [put_getLo]
        exact eff_getLo s e t fun hh => hks t hh ht) hld (fun d l' ec => ⟨fresh_iff.2 fun u => by
          rw [put_tm]
          split
          · rw [vk']; simp
          · exact fun hk => cf d l' ec u (eff_key s e u d hk), by
          rw [put_lo, eff_lo_len]; exact (c1 d l' ec).2.2⟩)]
      have hec : ∀ t l', c = some (t, l') → e.key ≠ some t := by
        intro t l' ec hh
        obtain ⟨u, _, k2⟩ := key_slot (ops := ops) (touch_key (ek t hh))
        exact cf t l' ec u k2
      have hev : ∀ t, e = .forget t → v.key ≠ some t := by
        intro t he hk
        rcases vk t hk with hk | ⟨l', hk⟩
        · exact hks t (by rw [he]; rfl) hk
        · exact hec t l' hk (by rw [he]; rfl)
      have e1 : ((((s.eff e).put oi.dst v').app c).put om.dst v) = ((((s.app c).put om.dst v).eff e).put oi.dst v') := by
        rw [app_put, put_put _ _ _ (fun d hd => fun hh => a2 d hh hd), eff_put _ hev, eff_app _ hec]
      rw [e1]
      refine exD_mono l h2 fun w' hw' => ?_
      cases hw' with
      | head =>
        refine ⟨wt P m om s H, .head _, rfl, fun t H' hh => ?_⟩
        rw [wt_same L2]
        exact wt_le hld t H' hh
      | tail _ hw' => exact ⟨w', .tail _ hw', rfl, fun t H' hh => hh⟩
end

end Go.Proofs.Ytoalafkpkllebaa.Ab
