/- Two operations of a region that draws its order change places. No conditions. -/
import Derived.Test.YtoalafkpkllebaaAe
set_option linter.unusedVariables false
set_option linter.unusedSimpArgs false
namespace Go.Proofs.Ytoalafkpkllebaa.Ab
open Go

theorem onT_key (t : Nat) (v : AV) : v.onT t = true ↔ v.key = some t := by cases v <;> simp [AV.onT, AV.key]
theorem fresh_iff {s : St} {d : Nat} : s.fresh d = true ↔ ∀ i, (s.tm.getD i .undef).key ≠ some d := by
  unfold St.fresh
  rw [List.all_eq_true]
  constructor
  · intro h i hk
    rw [List.getD_eq_getElem?_getD] at hk
    cases hx : s.tm[i]? with
    | none => simp [hx, AV.key] at hk
    | some v =>
      simp [hx] at hk
      have := h v (List.mem_of_getElem? hx)
      rw [(onT_key d v).2 hk] at this
      simp at this
  · intro h v hv
    obtain ⟨i, hi, he⟩ := List.getElem_of_mem hv
    have := h i
    rw [List.getD_eq_getElem?_getD, List.getElem?_eq_getElem hi, he] at this
    cases ho : v.onT d with
    | true => exact absurd ((onT_key d v).1 ho) this
    | false => rfl
theorem put_tm (s : St) (d : Option Tmp) (v : AV) (t : Nat) : (s.put d v).tm.getD t .undef = if d = some t ∧ t < s.tm.length then v else s.tm.getD t .undef := by
  cases d with
  | none => simp [St.put]
  | some d =>
    simp only [St.put, List.getD_eq_getElem?_getD]
    by_cases h : d = t
    · subst h
      by_cases hl : d < s.tm.length
      · simp [hl]
      · simp [hl]
    · rw [List.getElem?_set_ne h, if_neg (by simp [h])]
theorem app_tm (s : St) (c : Option (Nat × List AV)) : (s.app c).tm = s.tm := by cases c <;> rfl
theorem app_lo_len (s : St) (c : Option (Nat × List AV)) : (s.app c).lo.length = s.lo.length := by
  cases c with
  | none => rfl
  | some p => simp [St.app, St.setLo]
theorem put_lo (s : St) (d : Option Tmp) (v : AV) : (s.put d v).lo = s.lo := by cases d <;> rfl
theorem stput_len (s : St) (d : Option Tmp) (v : AV) : (s.put d v).tm.length = s.tm.length := by cases d <;> simp [St.put]
theorem app_getLo (s : St) (c : Option (Nat × List AV)) (t : Nat) (h : ∀ l, c ≠ some (t, l)) : (s.app c).getLo t = s.getLo t := by
  cases c with
  | none => rfl
  | some p =>
    obtain ⟨d, l⟩ := p
    have : d ≠ t := fun e => h l (by rw [e])
    simp [St.app, St.setLo, St.getLo, List.getD_eq_getElem?_getD, List.getElem?_set_ne this]
theorem put_getLo (s : St) (d : Option Tmp) (v : AV) (t : Nat) : (s.put d v).getLo t = s.getLo t := by unfold St.getLo; rw [put_lo]
theorem eff_tm (s : St) (e : Ef) (t : Nat) (h : ∀ a, e = .forget a → (s.tm.getD t .undef).key ≠ some a) : (s.eff e).tm.getD t .undef = s.tm.getD t .undef := by
  cases e with
  | id => rfl
  | set q l => rfl
  | forget a =>
    have h := h a rfl
    simp only [St.eff, St.forget, List.getD_eq_getElem?_getD, List.getElem?_map] at h ⊢
    cases hx : s.tm[t]? with
    | none => rfl
    | some v =>
      simp only [hx, Option.map_some, Option.getD_some] at h ⊢
      cases ho : v.onT a with
      | true => exact absurd ((onT_key a v).1 ho) h
      | false => rfl
theorem eff_key (s : St) (e : Ef) (t d : Nat) (h : ((s.eff e).tm.getD t .undef).key = some d) : (s.tm.getD t .undef).key = some d := by
  cases e with
  | id => exact h
  | set q l => exact h
  | forget a =>
    simp only [St.eff, St.forget, List.getD_eq_getElem?_getD, List.getElem?_map] at h ⊢
    cases hx : s.tm[t]? with
    | none => simp [hx, AV.key] at h
    | some v =>
      simp only [hx, Option.map_some, Option.getD_some] at h ⊢
      cases ho : v.onT a with
      | true => simp [ho, AV.key] at h
      | false => simpa [ho] using h
theorem eff_getLo (s : St) (e : Ef) (t : Nat) (h : e.key ≠ some t) : (s.eff e).getLo t = s.getLo t := by
  cases e with
  | id => rfl
  | set q l =>
    have : q ≠ t := fun e => h (by simp [Ef.key, e])
    simp [St.eff, St.setLo, St.getLo, List.getD_eq_getElem?_getD, List.getElem?_set_ne this]
  | forget a =>
    have : a ≠ t := fun e => h (by simp [Ef.key, e])
    simp [St.eff, St.forget, St.getLo, List.getD_eq_getElem?_getD, List.getElem?_set_ne this]
theorem eff_lo_len (s : St) (e : Ef) : (s.eff e).lo.length = s.lo.length := by cases e <;> simp [St.eff, St.setLo, St.forget]

theorem same_eq {x y : AV} (h : x.same y = true) : x = y := by
  cases x <;> cases y <;> simp [AV.same] at h <;> simp_all
theorem stableB_eq {H H' : Hp} {b p n : Nat} (h : stableB H H' b p n = true) : ∀ j, j < n → H'.cell b (p + j) = H.cell b (p + j) := by
  intro j hj
  unfold stableB at h
  have := List.all_eq_true.1 h j (by simpa using hj)
  split at this
  · rename_i x y h1 h2
    rw [h1, h2, same_eq this]
  · cases this
theorem stableB_congr {H0 H1 H' : Hp} {b p n : Nat} (h : ∀ j, j < n → H1.cell b (p + j) = H0.cell b (p + j)) : stableB H1 H' b p n = stableB H0 H' b p n := by
  unfold stableB
  have : ∀ (l : List Nat), (∀ j ∈ l, j < n) → (l.all fun j => match H1.cell b (p + j), H'.cell b (p + j) with
      | some x, some y => x.same y
      | _, _ => false) = (l.all fun j => match H0.cell b (p + j), H'.cell b (p + j) with
      | some x, some y => x.same y
      | _, _ => false) := by
    intro l
    induction l with
    | nil => intro _; rfl
    | cons j l ih =>
      intro hl
      simp only [List.all_cons]
      rw [h j (hl j (by simp)), ih fun k hk => hl k (by simp [hk])]
  exact this _ fun j hj => by simpa using hj

section
variable {P : Program} {O : Orc} {rec : Rec} {ops : Array Oper} {o : Oper} {s : St} {H : Hp} {r : AV × Hp}

theorem opKeys_same {s' : St} (h : Looks ops o s s') : opKeys o s' = opKeys o s := by
  unfold opKeys
  have : ∀ (l : List Operand), (∀ x ∈ l, s'.ev x = s.ev x) → (l.filterMap fun x => (s'.ev x).key) = l.filterMap fun x => (s.ev x).key := by
    intro l
    induction l with
    | nil => intro _; rfl
    | cons x l ih =>
      intro hl
      simp only [List.filterMap_cons, hl x (by simp), ih fun y hy => hl y (by simp [hy])]
  exact this _ h.ev
theorem wt_same {s' : St} {i : Nat} {H : Hp} (h : Looks ops o s s') : wt P i o s' H = wt P i o s H := by
  unfold wt
  rw [opKeys_same h]
  congr 1
  cases ho : o.op with
  | load t a => simp only [h.ev a (by simp [ho, Op.operands])]
  | _ => rfl
theorem touch_same {s' : St} (h : Looks ops o s s') : touch P o s' = touch P o s := by
  unfold touch
  cases ho : o.op with
  | store t a x => simp only [h.ev a (by simp [ho, Op.operands])]
  | call c =>
    obtain ⟨callee, args, tys⟩ := c
    simp only
    split
    · rename_i _ x l hx
      rw [h.ev x (by
        simp only [ho, Op.operands, Call.operands, Array.toList_append]
        exact List.mem_append_right _ (by rw [hx]; simp))]
    · rfl
  | _ => rfl
/-- A key among an operation's operands lies in a slot. -/
theorem key_slot {t : Nat} (h : t ∈ opKeys o s) : ∃ u, u ∈ o.looksAt ops ∧ (s.tm.getD u .undef).key = some t := by
  unfold opKeys at h
  obtain ⟨x, h1, h2⟩ := List.mem_filterMap.1 h
  cases x with
  | tmp u => exact ⟨u, List.mem_append_left _ (List.mem_filterMap.2 ⟨.tmp u, h1, rfl⟩), h2⟩
  | const v =>
    exfalso
    have : ∀ v, (ofC v).key = none := by intro v; unfold ofC; split <;> rfl
    rw [show s.ev (.const v) = ofC v from rfl, this] at h2
    cases h2
  | global g => simp [St.ev, AV.key] at h2
  | func f => simp [St.ev, AV.key] at h2

/-- A light operation under its guard. -/
theorem gl_ok {K : St → Hp → An} (hl : light O o = true) (h : exGd P O rec ops o s H K = some r) :
    ∃ v c, K ((s.app c).put o.dst v) H = some r ∧ (∀ d l, c = some (d, l) → o.dst = some d ∧ s.fresh d = true ∧ d < s.lo.length) ∧ (∀ t, v.key = some t → t ∈ opKeys o s ∨ ∃ l, c = some (t, l)) ∧ (∀ t ∈ o.looksAt ops, ∀ k, (s.tm.getD t .undef).key = some k → k ∈ opKeys o s) ∧
    ∀ s' H' K', Looks ops o s s' → (∀ t ∈ opKeys o s, s'.getLo t = s.getLo t) → LdS P o s H H' → FrS c s' → exGd P O rec ops o s' H' K' = K' ((s'.app c).put o.dst v) H' := by
  rw [exGd_eq] at h
  have hlook : gate ops o s ≠ none → ∀ t ∈ o.looksAt ops, ∀ k, (s.tm.getD t .undef).key = some k → k ∈ opKeys o s := by
    intro hg t ht k hk
    rcases List.mem_append.1 ht with ht | ht
    · obtain ⟨x, h1, h2⟩ := List.mem_filterMap.1 ht
      cases x with
      | tmp u =>
        simp only [Option.some.injEq] at h2
        subst h2
        exact key_mem h1 hk
      | _ => simp at h2
    · exfalso
      apply hg
      cases hgd : o.guard with
      | none => simp [hgd] at ht
      | some p =>
        obtain ⟨j, want⟩ := p
        simp only [hgd] at ht
        cases hj : (ops[j]?).bind (·.dst) with
        | none => simp [hj] at ht
        | some u =>
          simp [hj] at ht
          subst ht
          unfold gate
          simp only [hgd, hj]
          cases hv : s.tm.getD t .undef <;> rw [hv] at hk <;> simp [AV.key] at hk <;> rfl
  split at h
  · rename_i hg
    obtain ⟨v, c, h1, h2, h3, h4⟩ := lt_ok hl h
    refine ⟨v, c, h1, h2, h3, hlook (by rw [hg]; simp), fun s' H' K' hk hlo hld hf => ?_⟩
    rw [exGd_eq, gate_same hk, hg]
    exact h4 s' H' _ hk.ev hlo hld hf
  · rename_i hg
    refine ⟨.tup [], none, h, fun d l e => (by cases e), fun t ht => (by simp [AV.key] at ht), hlook (by rw [hg]; simp), fun s' H' K' hk hlo hld hf => ?_⟩
    rw [exGd_eq, gate_same hk, hg]
    rfl
  · simp at h
/-- A heavy operation under its guard. -/
theorem gh_ok {K : St → Hp → An} (hl : light O o = false) (h : exGd P O rec ops o s H K = some r) :
    ∃ v e H1, K ((s.eff e).put o.dst v) H1 = some r ∧ v.key = none ∧ (∀ t, e.key = some t → touch P o s = some t) ∧
    ∀ s' K', Looks ops o s s' → (∀ t ∈ opKeys o s, s'.getLo t = s.getLo t) → exGd P O rec ops o s' H K' = K' ((s'.eff e).put o.dst v) H1 := by
  rw [exGd_eq] at h
  split at h
  · rename_i hg
    obtain ⟨v, e, H1, h1, h2, h3, h4⟩ := hv_ok hl h
    refine ⟨v, e, H1, h1, h2, h3, fun s' K' hk hlo => ?_⟩
    rw [exGd_eq, gate_same hk, hg]
    exact h4 s' _ hk.ev hlo
  · rename_i hg
    refine ⟨.tup [], .id, H, h, rfl, fun t e => (by simp [Ef.key] at e), fun s' K' hk hlo => ?_⟩
    rw [exGd_eq, gate_same hk, hg]
    rfl
  · simp at h

/-- What is touched is spoken of by an operand. -/
theorem touch_key {t : Nat} (h : touch P o s = some t) : t ∈ opKeys o s := by
  unfold touch at h
  cases ho : o.op with
  | store ty a x =>
    rw [ho] at h
    exact key_mem (x := a) (by simp [ho, Op.operands]) h
  | call c =>
    rw [ho] at h
    obtain ⟨callee, args, tys⟩ := c
    simp only at h
    split at h
    · rename_i _ x l hx
      exact key_mem (x := x) (by
        simp only [ho, Op.operands, Call.operands, Array.toList_append]
        exact List.mem_append_right _ (by rw [hx]; simp)) h
    · simp at h
  | _ => rw [ho] at h; simp at h

theorem St.ext' {a b : St} (h1 : a.tm = b.tm) (h2 : a.lo = b.lo) : a = b := by cases a; cases b; simp_all

theorem put_put (s : St) {x y : Option Tmp} (v u : AV) (h : ∀ d, x = some d → y ≠ some d) : (s.put x v).put y u = (s.put y u).put x v := by
  cases x with
  | none => rfl
  | some d =>
    cases y with
    | none => rfl
    | some e =>
      have hne : d ≠ e := fun he => h d rfl (he ▸ rfl)
      simp only [St.put]
      rw [List.set_comm _ _ hne]
theorem app_put (s : St) (c : Option (Nat × List AV)) (d : Option Tmp) (v : AV) : (s.put d v).app c = (s.app c).put d v := by cases c <;> cases d <;> rfl
theorem app_app (s : St) {c d : Option (Nat × List AV)} (h : ∀ t l m, c = some (t, l) → d ≠ some (t, m)) : (s.app c).app d = (s.app d).app c := by
  cases c with
  | none => rfl
  | some p =>
    cases d with
    | none => rfl
    | some q =>
      obtain ⟨t, l⟩ := p
      obtain ⟨u, m⟩ := q
      have hne : t ≠ u := fun e => h t l m rfl (by rw [e])
      simp only [St.app, St.setLo]
      rw [List.set_comm _ _ hne]
theorem eff_app (s : St) {e : Ef} {c : Option (Nat × List AV)} (h : ∀ t l, c = some (t, l) → e.key ≠ some t) : (s.app c).eff e = (s.eff e).app c := by
  cases c with
  | none => rfl
  | some p =>
    obtain ⟨t, l⟩ := p
    have h := h t l rfl
    cases e with
    | id => rfl
    | set q m =>
      have hne : t ≠ q := fun e => h (by simp [Ef.key, e])
      simp only [St.app, St.eff, St.setLo]
      rw [List.set_comm _ _ hne]
    | forget q =>
      have hne : t ≠ q := fun e => h (by simp [Ef.key, e])
      simp only [St.app, St.eff, St.setLo, St.forget]
      rw [List.set_comm _ _ hne]
theorem eff_put (s : St) {e : Ef} {d : Option Tmp} {v : AV} (h : ∀ t, e = .forget t → v.key ≠ some t) : (s.put d v).eff e = (s.eff e).put d v := by
  cases d with
  | none => rfl
  | some d =>
    cases e with
    | id => rfl
    | set q m => rfl
    | forget q =>
      have h := h q rfl
      simp only [St.put, St.eff, St.forget]
      congr 1
      rw [List.map_set]
      congr 1
      cases ho : v.onT q with
      | true => exact absurd ((onT_key q v).1 ho) h
      | false => rfl
end

/-- One record of what has run is as good as another. -/
def WLe (W W' : List Wt) : Prop := ∀ w' ∈ W', ∃ w ∈ W, w'.i = w.i ∧ ∀ t H', w.ok t H' = true → w'.ok t H' = true

section
variable {P : Program} {O : Orc} {rec : Rec} {ops : Array Oper} {b : Array Nat} {r : AV × Hp} {K : St → Hp → An}

theorem exD_mono : ∀ (l : List Nat) {W W' : List Wt} {s : St} {H : Hp}, exD P O rec ops b l W s H K = some r → WLe W W' → exD P O rec ops b l W' s H K = some r
  | [], W, W', s, H, h, _ => h
  | i :: l, W, W', s, H, h, hw => by
    simp only [exD, chk_eq] at h ⊢
    cases ho : ops[i]? with
    | none => rw [ho] at h; simp at h
    | some o =>
      rw [ho] at h
      simp only at h ⊢
      cases hl : light O o with
      | true =>
        simp only [hl, cond_true] at h ⊢
        obtain ⟨v, c, h1, h2, h3, _, h4⟩ := gl_ok hl h
        rw [h4 s H _ (fun t _ => rfl) (fun t _ => rfl) (fun t a b p _ _ j _ => rfl) (fun d l' e => (h2 d l' e).2)]
        exact exD_mono l h1 fun w' hw' => by
          cases hw' with
          | head => exact ⟨_, .head _, rfl, fun t H' h => h⟩
          | tail _ hm =>
            obtain ⟨w, k1, k2⟩ := hw w' hm
            exact ⟨w, .tail _ k1, k2⟩
      | false =>
        simp only [hl, cond_false] at h ⊢
        obtain ⟨v, e, H1, h1, h2, h3, h4⟩ := gh_ok hl h
        rw [h4 s _ (fun t _ => rfl) (fun t _ => rfl)]
        cases hall : W.all (fun w => anc b w.i i || w.ok (touch P o s) H1) with
        | false => simp [hall] at h1
        | true =>
          simp only [hall, cond_true] at h1
          have hall' : W'.all (fun w => anc b w.i i || w.ok (touch P o s) H1) = true := by
            rw [List.all_eq_true] at hall ⊢
            intro w' hw'
            obtain ⟨w, k1, k2, k3⟩ := hw w' hw'
            have := hall w k1
            rw [Bool.or_eq_true] at this ⊢
            rw [k2]
            exact this.imp id (k3 _ _)
          simp only [hall', cond_true]
          exact exD_mono l h1 hw
end

end Go.Proofs.Ytoalafkpkllebaa.Ab
