/- Heavy operations of the plain machine, and operations under guards, may run where their operands are the same. No conditions. -/
import Derived.Test.YtoalafkpkllebaaAd
set_option linter.unusedVariables false
set_option linter.unusedSimpArgs false
namespace Go.Proofs.Ytoalafkpkllebaa.Ab
open Go

/-- What a heavy operation does to the variables of the call. -/
inductive Ef where
  | id
  | set (t : Nat) (l : List AV)
  | forget (t : Nat)
def Ef.key : Ef → Option Nat
  | .id => none
  | .set t _ => some t
  | .forget t => some t
def St.eff (s : St) : Ef → St
  | .id => s
  | .set t l => s.setLo t (some l)
  | .forget t => s.forget t

section
variable {P : Program} {O : Orc} {rec : Rec} {o : Oper} {s : St} {H : Hp} {K : AV → St → Hp → An} {r : AV × Hp}

theorem nKs_val : ∀ {cs : List CK} {v : AV} {i : Nat} {K : List AV → An}, nKs cs v i K = some r → ∃ l, K l = some r ∧ ∀ K', nKs cs v i K' = K' l
  | [], v, i, K, h => ⟨[], h, fun K' => rfl⟩
  | c :: cs, v, i, K, h => by
    simp only [nKs] at h
    obtain ⟨h1, _, h2⟩ := nK_val h
    obtain ⟨l, h3, h4⟩ := nKs_val h1
    exact ⟨_, h3, fun K' => by simp only [nKs, h2, h4]⟩
theorem nT_val {t : TypeId} {v : AV} {K : AV → An} (h : nT P t v K = some r) : ∃ u, K u = some r ∧ u.key = none ∧ ∀ K', nT P t v K' = K' u := by
  unfold nT at h ⊢
  split at h
  · rename_i cs hcs
    cases ha : isAggT P t with
    | true =>
      simp only [ha, cond_true] at h ⊢
      cases hg : v.isAgg cs.length with
      | false => simp [hg] at h
      | true =>
        simp only [hg, cond_true] at h ⊢
        obtain ⟨l, h1, h2⟩ := nKs_val h
        exact ⟨_, h1, rfl, fun K' => h2 _⟩
    | false =>
      simp only [ha, cond_false] at h ⊢
      split at h
      · obtain ⟨h1, h2, h3⟩ := nK_val h
        exact ⟨_, h1, h2, h3⟩
      · simp at h
  · simp at h
theorem nTs_val : ∀ {ts : List TypeId} {v : AV} {i : Nat} {K : List AV → An}, nTs P ts v i K = some r → ∃ l, K l = some r ∧ ∀ K', nTs P ts v i K' = K' l
  | [], v, i, K, h => ⟨[], h, fun K' => rfl⟩
  | c :: cs, v, i, K, h => by
    simp only [nTs] at h
    obtain ⟨u, h1, _, h2⟩ := nT_val h
    obtain ⟨l, h3, h4⟩ := nTs_val h1
    exact ⟨_, h3, fun K' => by simp only [nTs, h2, h4]⟩
theorem nR_val {t : TypeId} {v : AV} {K : AV → An} (h : nR P t v K = some r) : ∃ u, K u = some r ∧ u.key = none ∧ ∀ K', nR P t v K' = K' u := by
  unfold nR at h ⊢
  split at h
  · rename_i ts hts
    split at h
    · exact ⟨_, h, rfl, fun K' => by rfl⟩
    · rename_i hne
      cases hg : v.isTup ts.toList.length with
      | false => rw [hg] at h; simp at h
      | true =>
        rw [hg] at h
        simp only [cond_true] at h
        obtain ⟨l, h1, h2⟩ := nTs_val h
        exact ⟨_, h1, rfl, fun K' => h2 _⟩
  · exact nT_val h

/-- A heavy operation has run; it can run again wherever its operands are the same. -/
def Hv (P : Program) (O : Orc) (rec : Rec) (o : Oper) (s : St) (H : Hp) (K : AV → St → Hp → An) (r : AV × Hp) : Prop :=
  ∃ v e H1, K v (s.eff e) H1 = some r ∧ v.key = none ∧ (∀ t, e.key = some t → touch P o s = some t) ∧
    ∀ s' K', (∀ x ∈ o.op.operands.toList, s'.ev x = s.ev x) → (∀ t ∈ opKeys o s, s'.getLo t = s.getLo t) → exOp P O rec o s' H K' = K' v (s'.eff e) H1

theorem Hv.plain (v : AV) (H1 : Hp) (h : K v s H1 = some r) (hk : v.key = none) (hs : ∀ s' K', (∀ x ∈ o.op.operands.toList, s'.ev x = s.ev x) → (∀ t ∈ opKeys o s, s'.getLo t = s.getLo t) → exOp P O rec o s' H K' = K' v s' H1) : Hv P O rec o s H K r :=
  ⟨v, .id, H1, h, hk, fun t e => (by simp [Ef.key] at e), fun s' K' h1 h2 => hs s' K' h1 h2⟩

theorem newMem_heap {cells : List AV} {g l : Nat → AV} (hg : inHeap O o.dst = true) (h : newMem O o s H cells g l K = some r) :
    K (g H.length) s (H ++ [some ⟨false, cells⟩]) = some r ∧ ∀ s' K', newMem O o s' H cells g l K' = K' (g H.length) s' (H ++ [some ⟨false, cells⟩]) := by
  unfold newMem at h
  cases hall : cells.all AV.cell with
  | false => simp [hall] at h
  | true =>
    simp only [hall, cond_true] at h
    split at h
    · rename_i d hd
      have hb : O.glob.testBit d = true := by simpa [inHeap, hd] using hg
      simp only [hb, cond_true] at h
      exact ⟨h, fun s' K' => by unfold newMem; simp only [hall, cond_true, hd, hb]⟩
    · simp at h

theorem src_val {sz : Nat} {x : AV} {K : Nat → List AV → An} (h : srcCells s H sz x K = some r) : ∃ n vs, K n vs = some r ∧ ∀ s' K', (∀ t, x.key = some t → s'.getLo t = s.getLo t) → srcCells s' H sz x K' = K' n vs := by
  unfold srcCells at h
  cases x with
  | nl => exact ⟨0, [], h, fun s' K' _ => rfl⟩
  | sl sz' y =>
    simp only at h
    split at h
    · rename_i hz
      obtain ⟨vs, h1, h2⟩ := Option.bind_eq_some_iff.1 h
      exact ⟨_, vs, h2, fun s' K' _ => by simp only [srcCells, if_pos hz, h1, Option.bind_some]⟩
    · simp at h
  | ls sz' t n =>
    simp only at h
    split at h
    · rename_i hz
      obtain ⟨vs, h1, h2⟩ := Option.bind_eq_some_iff.1 h
      split at h2
      · rename_i hl
        exact ⟨n, vs, h2, fun s' K' hk => by simp only [srcCells, if_pos hz, hk t rfl, h1, Option.bind_some, if_pos hl]⟩
      · simp at h2
    · simp at h
  | _ => simp at h

theorem callV_val {ty : TypeId} {f : FuncId} {args : List AV} (h : callV P rec ty f args s H K = some r) : ∃ v H1, K v s H1 = some r ∧ v.key = none ∧ ∀ s' K', callV P rec ty f args s' H K' = K' v s' H1 := by
  unfold callV at h
  cases hb : (okF P f && args.all AV.glob) with
  | false => simp [hb] at h
  | true =>
    simp only [hb, cond_true] at h
    obtain ⟨u, h1, h2⟩ := Option.bind_eq_some_iff.1 h
    obtain ⟨v, h3, h4, h5⟩ := nR_val h2
    exact ⟨v, u.2, h3, h4, fun s' K' => by unfold callV; simp only [hb, cond_true, h1, Option.bind_some]; exact h5 _⟩

theorem hv_ok (hl : light O o = false) (h : exOp P O rec o s H K = some r) : Hv P O rec o s H K r := by
  cases ho : o.op with
  | alloc t =>
    simp only [exOp, ho] at h
    obtain ⟨l, h1, h2⟩ := Option.bind_eq_some_iff.1 h
    have hg : inHeap O o.dst = true := by simpa [light, ho] using hl
    obtain ⟨k1, k2⟩ := newMem_heap hg h2
    exact Hv.plain _ _ k1 rfl fun s' K' _ _ => by simp only [exOp, ho, h1, Option.bind_some]; exact k2 s' K'
  | box t x =>
    simp only [exOp, ho] at h
    have hg : inHeap O o.dst = true := by simpa [light, ho] using hl
    obtain ⟨k1, k2⟩ := newMem_heap hg h
    exact Hv.plain _ _ k1 rfl fun s' K' he _ => by simp only [exOp, ho, he x (by simp [ho, Op.operands])]; exact k2 s' K'
  | buildSlice t n ps =>
    simp only [exOp, ho] at h
    have hg : inHeap O o.dst = true := by simpa [light, ho] using hl
    split at h
    · rename_i e hu
      split at h
      · rename_i hb
        obtain ⟨z, h1, h⟩ := Option.bind_eq_some_iff.1 h
        split at h
        · rename_i hz
          obtain ⟨l, h2, h⟩ := Option.bind_eq_some_iff.1 h
          obtain ⟨k1, k2⟩ := newMem_heap hg h
          refine Hv.plain _ _ k1 rfl fun s' K' hx _ => ?_
          have e1 : (ps.toList.map fun p => (p.1, fixN P e (s'.ev p.2))) = ps.toList.map fun p => (p.1, fixN P e (s.ev p.2)) :=
            List.map_congr_left fun p hp => by rw [hx p.2 (by simp only [ho, Op.operands]; exact List.mem_map.2 ⟨p, hp, rfl⟩)]
          simp only [exOp, ho, hu, if_pos hb, h1, Option.bind_some, if_pos hz, e1, h2]
          exact k2 s' K'
        · simp at h
      · simp at h
    · simp at h
  | store t x y =>
    simp only [exOp, ho] at h
    have m1 : x ∈ o.op.operands.toList := by simp [ho, Op.operands]
    have m2 : y ∈ o.op.operands.toList := by simp [ho, Op.operands]
    unfold exStore at h
    split at h
    · rename_i hsz
      cases hx : s.ev x with
      | ptr b p =>
        rw [hx] at h
        simp only at h
        cases hall : (fixN P t (s.ev y)).cells.all AV.cell with
        | false => simp [hall] at h
        | true =>
          simp only [hall, cond_true] at h
          obtain ⟨H', h1, h2⟩ := Option.bind_eq_some_iff.1 h
          exact Hv.plain _ _ h2 rfl fun s' K' he _ => by simp only [exOp, ho, he x m1, he y m2, hx, exStore, if_pos hsz, hall, cond_true, h1, Option.bind_some]
      | lp q p =>
        rw [hx] at h
        simp only at h
        cases hall : (fixN P t (s.ev y)).cells.all AV.cell with
        | false => simp [hall] at h
        | true =>
          simp only [hall, cond_true] at h
          obtain ⟨l, h1, h⟩ := Option.bind_eq_some_iff.1 h
          obtain ⟨l', h2, h⟩ := Option.bind_eq_some_iff.1 h
          refine ⟨_, .set q l', H, h, rfl, fun t e => ?_, fun s' K' he hlo => ?_⟩
          · simp only [Ef.key, Option.some.injEq] at e
            simp [touch, ho, hx, AV.key, e]
          · simp only [exOp, ho, he x m1, he y m2, hx, exStore, if_pos hsz, hall, cond_true, hlo q (key_mem m1 (by rw [hx]; rfl)), h1, Option.bind_some, h2]
            rfl
      | _ => rw [hx] at h; simp at h
    · simp at h
  | makeSlice t x y =>
    simp only [exOp, ho] at h
    have m1 : x ∈ o.op.operands.toList := by simp [ho, Op.operands]
    have m2 : y ∈ o.op.operands.toList := by simp [ho, Op.operands]
    split at h
    · rename_i e n m hu hx hy
      split at h
      · rename_i hb
        obtain ⟨z, h1, h⟩ := Option.bind_eq_some_iff.1 h
        split at h
        · rename_i hz
          exact Hv.plain _ _ h rfl fun s' K' he _ => by simp only [exOp, ho, he x m1, he y m2, hx, hy, hu, if_pos hb, h1, Option.bind_some, if_pos hz]
        · simp at h
      · simp at h
    · simp at h
  | call c =>
    obtain ⟨callee, args, argTypes⟩ := c
    have hargs : ∀ s' : St, (∀ x ∈ o.op.operands.toList, s'.ev x = s.ev x) → args.toList.map s'.ev = args.toList.map s.ev := fun s' he =>
      List.map_congr_left fun x hx => he x (by simp [ho, Op.operands, Call.operands]; right; simpa using hx)
    simp only [exOp, ho] at h
    cases callee with
    | invoke x m => simp at h
    | value f =>
      simp only at h
      have m1 : f ∈ o.op.operands.toList := by simp [ho, Op.operands, Call.operands]
      split at h
      · rename_i g cs hg
        split at h
        · rename_i hlen
          obtain ⟨v, H1, k1, k2, k3⟩ := callV_val h
          exact Hv.plain v H1 k1 k2 fun s' K' he _ => by simp only [exOp, ho, he f m1, hg, hargs s' he, if_pos hlen]; exact k3 s' K'
        · simp at h
      · simp at h
    | builtin b =>
      cases b with
      | append =>
        simp only at h
        split at h
        · rename_i x y t t' hxy htt
          obtain ⟨ox, oy, hov, hox, hoy⟩ : ∃ ox oy, args.toList = [ox, oy] ∧ s.ev ox = x ∧ s.ev oy = y := by
            match hl' : args.toList with
            | [] => simp [hl'] at hxy
            | [_] => simp [hl'] at hxy
            | [p, q] => simp [hl'] at hxy; exact ⟨p, q, rfl, hxy.1, hxy.2⟩
            | _ :: _ :: _ :: _ => simp [hl'] at hxy
          have m1 : ox ∈ o.op.operands.toList := by simp [ho, Op.operands, Call.operands, ← Array.mem_toList_iff, hov]
          have m2 : oy ∈ o.op.operands.toList := by simp [ho, Op.operands, Call.operands, ← Array.mem_toList_iff, hov]
          have key2 : ∀ s' : St, (∀ t ∈ opKeys o s, s'.getLo t = s.getLo t) → ∀ t, y.key = some t → s'.getLo t = s.getLo t := fun s' hlo t ht => hlo t (key_mem m2 (by rw [hoy]; exact ht))
          split at h
          · rename_i htt'
            split at h
            · rename_i e hu
              split at h
              · rename_i sz z hz
                split at h
                · rename_i hc
                  obtain ⟨n, vs, h, hsrc⟩ := src_val h
                  obtain ⟨u, happ, h⟩ := Option.bind_eq_some_iff.1 h
                  cases hall : vs.all AV.cell with
                  | false => simp [hall] at h
                  | true =>
                    simp only [hall, cond_true] at h
                    refine Hv.plain _ _ h rfl fun s' K' he hlo => ?_
                    simp only [exOp, ho, hargs s' he, hxy, htt, if_pos htt', hu, hz, if_pos hc]
                    rw [hsrc s' _ (key2 s' hlo)]
                    simp only [happ, Option.bind_some, hall, cond_true]
                · simp at h
              · rename_i sz a m hz
                split at h
                · rename_i hc
                  obtain ⟨l, hlo1, h⟩ := Option.bind_eq_some_iff.1 h
                  obtain ⟨n, vs, h, hsrc⟩ := src_val h
                  obtain ⟨u, happ, h⟩ := Option.bind_eq_some_iff.1 h
                  cases hall : (l.all AV.cell && vs.all AV.cell) with
                  | false => simp [hall] at h
                  | true =>
                    simp only [hall, cond_true] at h
                    have hxk : x.key = some a := by
                      have : (fixN P t x).key = some a := by rw [hz]; rfl
                      exact fixN_key this
                    refine ⟨_, .forget a, _, h, rfl, fun t e => ?_, fun s' K' he hlo => ?_⟩
                    · simp only [Ef.key, Option.some.injEq] at e
                      subst e
                      simp [touch, ho, hov, hox, hxk]
                    · simp only [exOp, ho, hargs s' he, hxy, htt, if_pos htt', hu, hz, if_pos hc, hlo a (key_mem m1 (by rw [hox]; exact hxk)), hlo1, Option.bind_some]
                      rw [hsrc s' _ (key2 s' hlo)]
                      simp only [happ, Option.bind_some, hall, cond_true]
                      rfl
                · simp at h
              · simp at h
            · simp at h
          · simp at h
        · simp at h
      | len => simp [light, ho] at hl
      | max => simp [light, ho] at hl
      | min => simp [light, ho] at hl
      | _ => simp at h
  | _ => first | (simp [light, ho] at hl; done) | (simp [exOp, ho] at h; done)

/-! ### Under guards -/
theorem St.set_same {s : St} {t : Nat} {v : AV} (h : s.tm.getD t .undef = v) (hv : v ≠ .undef) : (⟨s.tm.set t v, s.lo⟩ : St) = s := by
  obtain ⟨tm, lo⟩ := s
  simp only at h
  congr 1
  rw [List.getD_eq_getElem?_getD] at h
  cases hx : tm[t]? with
  | none => simp [hx] at h; exact absurd h.symm hv
  | some y =>
    simp [hx] at h
    subst h
    have hlt := (List.getElem?_eq_some_iff.1 hx).1
    refine List.ext_getElem? fun i => ?_
    by_cases hi : t = i
    · subst hi; rw [List.getElem?_set_self', hx]; rfl
    · rw [List.getElem?_set_ne hi]

/-- The slots that an operation looks at hold the same. -/
def Looks (ops : Array Oper) (o : Oper) (s s' : St) : Prop := ∀ t ∈ o.looksAt ops, s'.tm.getD t .undef = s.tm.getD t .undef
theorem Looks.ev {ops : Array Oper} {s s' : St} (h : Looks ops o s s') : ∀ x ∈ o.op.operands.toList, s'.ev x = s.ev x := by
  intro x hx
  cases x with
  | tmp t => exact h t (List.mem_append_left _ (List.mem_filterMap.2 ⟨.tmp t, hx, rfl⟩))
  | _ => rfl

/-- How a guard is read: 'some true': the operation runs; 'some false': it is passed over. -/
def gate (ops : Array Oper) (o : Oper) (s : St) : Option Bool :=
  match o.guard with
  | none => some true
  | some (j, want) =>
    match (ops[j]?).bind (·.dst) with
    | some t => match s.tm.getD t .undef with
      | .bool b => some (b == want)
      | .tup _ => some false
      | _ => none
    | none => none
theorem exGd_eq {ops : Array Oper} {K : St → Hp → An} : exGd P O rec ops o s H K = match gate ops o s with
    | some true => exOp P O rec o s H fun v s H => K (s.put o.dst v) H
    | some false => K (s.put o.dst (.tup [])) H
    | none => none := by
  unfold exGd gate
  cases hg : o.guard with
  | none => rfl
  | some p =>
    obtain ⟨j, want⟩ := p
    simp only
    cases ht : (ops[j]?).bind (·.dst) with
    | none => rfl
    | some t =>
      simp only
      cases hb : s.tm.getD t .undef with
      | bool b =>
        cases b with
        | true => rw [St.set_same hb (by simp)]; cases want <;> rfl
        | false => rw [St.set_same hb (by simp)]; cases want <;> rfl
      | _ => rfl
theorem gate_same {ops : Array Oper} {s' : St} (h : Looks ops o s s') : gate ops o s' = gate ops o s := by
  unfold gate
  cases hg : o.guard with
  | none => rfl
  | some p =>
    obtain ⟨j, want⟩ := p
    simp only
    cases ht : (ops[j]?).bind (·.dst) with
    | none => rfl
    | some t =>
      simp only
      rw [h t (List.mem_append_right _ (by simp [hg, ht]))]
end

end Go.Proofs.Ytoalafkpkllebaa.Ab
