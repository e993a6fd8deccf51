/- The plain machine's operations on memory do what the program's do. No conditions. -/
import Derived.Test.YtoalafkpkllebaaAo
set_option linter.unusedVariables false
set_option linter.unusedSimpArgs false
namespace Go.Proofs.Ytoalafkpkllebaa.Ab
open Go

/-! ### Parts laid into cells -/
theorem fold_put (off : Nat) : ∀ (l : List Value) (k : Nat) (cs : Array Value), off + k + l.length ≤ cs.size →
    ((l.zipIdx k).foldl (fun cs x => cs.setIfInBounds (off + x.2) x.1) cs).toList = cs.toList.take (off + k) ++ l ++ cs.toList.drop (off + k + l.length)
  | [], k, cs, h => by simp
  | v :: l, k, cs, h => by
    simp only [List.length_cons] at h
    simp only [List.zipIdx_cons, List.foldl_cons]
    rw [fold_put off l (k + 1) _ (by simp; omega)]
    have hlt : off + k < cs.toList.length := by simp; omega
    simp only [Array.toList_setIfInBounds, List.length_cons]
    rw [show off + (k + 1) = off + k + 1 by omega, show off + k + 1 + l.length = off + k + (l.length + 1) by omega]
    rw [List.take_succ_eq_append_getElem (by simpa using hlt), List.getElem_set_self, List.take_set_of_le (Nat.le_refl _), List.drop_set_of_lt (by omega)]
    simp
theorem fill_step (off : Nat) (v : Value) (cs : Array Value) (h : off + v.cells.size ≤ cs.size) :
    (v.cells.zipIdx.foldl (fun cs x => cs.setIfInBounds (off + x.2) x.1) cs).toList = cs.toList.take off ++ v.cells.toList ++ cs.toList.drop (off + v.cells.size) := by
  have := fold_put off v.cells.toList 0 cs (by simpa using h)
  rw [← Array.foldl_toList, Array.toList_zipIdx]
  simpa using this

section
variable {P : Program} {E0 : En} {H0 : Hp} {w0 : World} {E : En} {la : Nat → Nat} {s : St} {H : Hp} {a : Act} {w : World}

theorem put_ok {l l' : List AV} {rl : List Value} {o : Nat} {vs : List AV} {rvs : List Value} (h : GRs E l rl) (hv : GRs E vs rvs) (hp : put l o vs = some l') :
    o + rvs.length ≤ rl.length ∧ GRs E l' (rl.take o ++ rvs ++ rl.drop (o + rvs.length)) := by
  unfold put at hp
  split at hp
  · rename_i hle
    simp at hp; subst hp
    rw [hv.length, h.length]
    exact ⟨hle, by simpa using ((h.take o).append (hv.append (h.drop (o + vs.length))))⟩
  · simp at hp
theorem lay_ok {place : Nat → Option (Nat × Nat)} : ∀ {parts : List (Nat × AV)} {rparts : List (Nat × Value)} {l l' : List AV} {rl : Array Value}, GRs E l rl.toList → rparts.length = parts.length →
    (∀ (i : Nat) x, parts[i]? = some x → ∃ y, rparts[i]? = some y ∧ y.1 = x.1 ∧ VR E la x.2 y.2) → lay place l parts = some l' → ∃ rl', Instr.fill place rl rparts = some rl' ∧ GRs E l' rl'.toList
  | [], [], l, l', rl, h, _, _, hl => by simp [lay] at hl; subst hl; exact ⟨rl, rfl, h⟩
  | [], _ :: _, _, _, _, _, hn, _, _ => by simp at hn
  | _ :: _, [], _, _, _, _, hn, _, _ => by simp at hn
  | (i, v) :: parts, (j, rv) :: rparts, l, l', rl, h, hn, hp, hl => by
    obtain ⟨y, h1, h2, h3⟩ := hp 0 _ rfl
    simp at h1; subst h1
    obtain rfl : j = i := h2
    simp only [lay] at hl
    obtain ⟨p, hp1, hl⟩ := Option.bind_eq_some_iff.1 hl
    split at hl
    · rename_i hc
      obtain ⟨hc1, hc2⟩ := hc
      obtain ⟨m, hm, hl⟩ := Option.bind_eq_some_iff.1 hl
      have hv := (h3.cells hc2).1
      obtain ⟨k1, k2⟩ := put_ok h hv hm
      have hsz : rv.cells.size = p.2 := by have := hv.length; simp at this; omega
      have hle : p.1 + rv.cells.size ≤ rl.size := by simpa using k1
      have hf := fill_step p.1 rv rl hle
      obtain ⟨rl', e1, e2⟩ := lay_ok (parts := parts) (rparts := rparts) (l := m) (rl := rv.cells.zipIdx.foldl (fun cs x => cs.setIfInBounds (p.1 + x.2) x.1) rl) (by rw [hf]; simpa using k2) (by simpa using hn) (fun k x hx => by simpa using hp (k + 1) x (by simpa using hx)) hl
      refine ⟨rl', ?_, e2⟩
      rw [Instr.fill]
      simp only [hp1]
      rw [if_neg (by simp [hsz]; omega)]
      exact e1
    · simp at hl

theorem ofK_ok {c : CK} {v : Value} {x : AV} (h : ofK c v = some x) : GR E x v ∧ x.cell = true := by
  unfold ofK at h
  split at h
  · split at h
    · simp at h; subst_vars; exact ⟨.int _ _, rfl⟩
    · simp at h
  · simp at h; subst h; exact ⟨.bool _, rfl⟩
  · simp at h; subst h; exact ⟨.slnil _ _ rfl rfl, rfl⟩
  · simp at h; subst h; exact ⟨.nilp, rfl⟩
  · simp at h; subst h; exact ⟨.nilf, rfl⟩
  · simp at h
theorem ofKs_ok : ∀ {cs : List CK} {vs : List Value} {l : List AV}, ofKs cs vs = some l → GRs E l vs ∧ l.all AV.cell = true
  | [], [], l, h => by simp [ofKs] at h; subst h; exact ⟨.nil, rfl⟩
  | c :: cs, v :: vs, l, h => by
    simp only [ofKs] at h
    obtain ⟨x, h1, h⟩ := Option.bind_eq_some_iff.1 h
    obtain ⟨m, h2, h3⟩ := Option.map_eq_some_iff.1 h
    subst h3
    obtain ⟨k1, k2⟩ := ofK_ok (E := E) h1
    obtain ⟨k3, k4⟩ := ofKs_ok h2
    exact ⟨.cons k1 k3, by simp [k2]; simpa using k4⟩
  | [], _ :: _, _, h => by simp [ofKs] at h
  | _ :: _, [], _, h => by simp [ofKs] at h
theorem zc_ok {t : TypeId} {l : List AV} (h : zc P t = some l) : ∃ i z, P.info? t = some i ∧ i.zero = some z ∧ z.cells.size = i.size ∧ GRs E l z.cells.toList ∧ l.all AV.cell = true := by
  unfold zc at h
  obtain ⟨i, h1, h⟩ := Option.bind_eq_some_iff.1 h
  obtain ⟨z, h2, h⟩ := Option.bind_eq_some_iff.1 h
  obtain ⟨cs, h3, h⟩ := Option.bind_eq_some_iff.1 h
  split at h
  · rename_i hs
    obtain ⟨k1, k2⟩ := ofKs_ok (E := E) h
    exact ⟨i, z, h1, h2, hs, k1, k2⟩
  · simp at h

/-- New memory. -/
theorem newMem_ok {O : Orc} {o : Oper} {cells : List AV} {g l : Nat → AV} {K : AV → St → Hp → An} {r : AV × Hp} (hi : Inv E0 H0 w0 E la s H a w) (h : newMem O o s H cells g l K = some r) (c : Array Value) (e : TypeId) (hc : GRs E cells c.toList)
    {rg : Nat → Value} (hg : ∀ (E' : En) b, b < E'.nb → E'.si (E'.be b) = c.size → GR E' (g b) (rg (E'.be b))) (hl : ∀ (E' : En) la' t, VR E' la' (l t) (rg (la' t)))
    {next : Act → World → Prop} (hK : Nx E0 H0 w0 K r o a next) : next (a.put o.dst (rg w.heap.size)) (w.alloc (.cells c e)) := by
  unfold newMem at h
  cases hall : cells.all AV.cell with
  | false => simp [hall] at h
  | true =>
    simp only [hall, cond_true] at h
    split at h
    · rename_i d hd
      cases hb : O.glob.testBit d with
      | true =>
        simp only [hb, cond_true] at h
        obtain ⟨E', k1, k2, k3, k4, k5⟩ := hi.makeH cells c e (by have := hc.length; simp at this; omega) (fun i v hv => by
          obtain ⟨rv, m1, m2⟩ := hc.get i v hv
          exact ⟨rv, by simpa using m1, m2⟩)
        have := hg E' H.length (by omega) (by rw [k3]; exact k5)
        rw [k3] at this
        exact hK _ _ _ _ _ _ _ h k1 (.g this)
      | false =>
        simp only [hb, cond_false] at h
        cases hf : (s.fresh d && decide (d < s.lo.length)) with
        | false => simp [hf] at h
        | true =>
          simp only [hf, cond_true] at h
          rw [Bool.and_eq_true] at hf
          obtain ⟨E', la', k1, k2⟩ := hi.makeL d hf.1 (by simpa using hf.2) cells c e hc
          have := hl E' la' d
          rw [k2] at this
          exact hK _ _ _ _ _ _ _ h k1 this
    · simp at h

theorem LR.cells (hi : Inv E0 H0 w0 E la s H a w) {t : Nat} {l : List AV} (h : s.getLo t = some l) : s.lo[t]? = some (some l) ∧ ∃ c e, w.heap[la t]? = some (.cells c e (0, 0)) ∧ E.si (la t) = c.size ∧ GRs E l c.toList := by
  unfold St.getLo at h
  rw [List.getD_eq_getElem?_getD] at h
  cases hx : s.lo[t]? with
  | none => simp [hx] at h
  | some y =>
    simp [hx] at h
    subst h
    obtain ⟨c, e, k1, _, k3, k4⟩ := hi.lr.live t l hx
    exact ⟨rfl, c, e, k1, k3, k4⟩

/-- A load. -/
theorem load_ok {t : TypeId} {x : AV} {rx : Value} {K : AV → An} {r : AV × Hp} (hi : Inv E0 H0 w0 E la s H a w) (hx : VR E la x rx)
    (h : exLoad P t x s H K = some r) : ∃ v rv, K v = some r ∧ (Instr.loadAt t rx).run P w = .ok rv w ∧ VR E la v rv := by
  unfold exLoad at h
  cases x with
  | ptr b p =>
    simp only at h
    obtain ⟨hb, rfl⟩ := hx.ptr_inv
    split at h
    · rename_i cs hcs
      obtain ⟨d, hd⟩ := kinds_u hcs
      obtain ⟨i, hin, hsz⟩ := info_of hd
      split at h
      · rename_i hlen
        cases hag : isAggT P t with
        | true =>
          simp only [hag, cond_true] at h
          obtain ⟨l, rl, k1, k2, k3, k4⟩ := ldKs_ok hi.hr h
          refine ⟨_, _, k1, ?_, .agg k4⟩
          exact run_loadAt_mid w _ _ t rl d k3 hd (by unfold isAggT at hag; rw [hd] at hag; cases d <;> simp_all) (by rw [hin]; simp; omega)
        | false =>
          simp only [hag, cond_false] at h
          split at h
          · obtain ⟨v, rv, k1, _, k3, k4⟩ := ldK_ok hi.hr h
            refine ⟨v, rv, k1, ?_, .g k4⟩
            simp [Instr.loadAt, Instr.sureAddr, loadVar, run_ag hd, hag, k3]
          · simp at h
      · simp at h
    · simp at h
  | lp x p =>
    simp only at h
    obtain rfl := hx.lp_inv
    obtain ⟨l, hl, h⟩ := Option.bind_eq_some_iff.1 h
    obtain ⟨_, c, e, hc, _, hg⟩ := LR.cells hi hl
    split at h
    · rename_i cs hcs
      obtain ⟨d, hd⟩ := kinds_u hcs
      obtain ⟨i, hin, hsz⟩ := info_of hd
      cases hag : isAggT P t with
      | true =>
        simp only [hag, cond_true] at h
        split at h
        · rename_i hle
          have g2 := (hg.drop p).take (szOf P t)
          refine ⟨_, _, h, ?_, .agg g2⟩
          refine run_loadAt_mid w _ _ t _ d ?_ hd (by unfold isAggT at hag; rw [hd] at hag; cases d <;> simp_all) ?_
          · intro j v hv
            rw [cell_of_row w _ _ c e _ hc]
            rw [List.getElem?_take] at hv
            split at hv
            · simpa using hv
            · simp at hv
          · rw [hin]
            have := hg.length
            simp at this
            simp [hsz] at hle ⊢
            omega
        · simp at h
      | false =>
        simp only [hag, cond_false] at h
        obtain ⟨v, hv, h⟩ := Option.bind_eq_some_iff.1 h
        obtain ⟨rv, k1, k2⟩ := hg.get p v hv
        cases hvc : v.cell with
        | false => simp [hvc] at h
        | true =>
        simp only [hvc, cond_true] at h
        obtain ⟨h, _⟩ := asInt_ok h
        refine ⟨v, rv, h, ?_, .g k2⟩
        have hcell : w.cell? ⟨la x, p, none⟩ = some rv := by rw [cell_of_row w _ _ c e _ hc]; simpa using k1
        simp [Instr.loadAt, Instr.sureAddr, loadVar, run_ag hd, hag, hcell]
    · simp at h
  | _ => simp at h

theorem splice_ok {l vs : List AV} {c : List Value} {rvs : List Value} {o : Nat} (hl : l.length ≤ c.length) (h : ∀ (i : Nat) v, l[i]? = some v → ∃ rv, c[i]? = some rv ∧ GR E v rv) (hv : GRs E vs rvs) (ho : o + vs.length ≤ l.length) :
    ∀ (i : Nat) v, (l.take o ++ vs ++ l.drop (o + vs.length))[i]? = some v → ∃ rv, (c.take o ++ rvs ++ c.drop (o + rvs.length))[i]? = some rv ∧ GR E v rv := by
  intro i v hi
  have hn := hv.length
  by_cases h1 : i < o
  · rw [List.append_assoc, List.getElem?_append_left (by simp; omega), List.getElem?_take, if_pos h1] at hi ⊢
    exact h i v hi
  · by_cases h2 : i < o + vs.length
    · rw [List.append_assoc, List.getElem?_append_right (by simp; omega), List.getElem?_append_left (by simp; omega)] at hi ⊢
      have e1 : (l.take o).length = o := by simp; omega
      have e2 : (c.take o).length = o := by simp; omega
      rw [e1] at hi
      rw [e2]
      exact hv.get _ v hi
    · have e1 : (l.take o ++ vs).length = o + vs.length := by simp; omega
      have e2 : (c.take o ++ rvs).length = o + vs.length := by simp; omega
      rw [List.getElem?_append_right (by omega), List.getElem?_drop, e1] at hi
      rw [List.getElem?_append_right (by omega), List.getElem?_drop, e2, hn]
      exact h _ v hi

/-- A store. -/
theorem store_ok {t : TypeId} {x v : AV} {rx rv : Value} {K : St → Hp → An} {r : AV × Hp} (hi : Inv E0 H0 w0 E la s H a w) (hx : VR E la x rx) (hv : VR E la v rv)
    (h : exStore P t x v s H K = some r) : ∃ s' H' w', K s' H' = some r ∧ (Instr.storeAt t rx rv).run P w = .ok () w' ∧ Inv E0 H0 w0 E la s' H' a w' := by
  unfold exStore at h
  split at h
  · rename_i hsz
    obtain ⟨hsz, hin⟩ := hsz
    obtain ⟨i, hin⟩ := Option.isSome_iff_exists.1 hin
    cases x with
    | ptr b p =>
      simp only at h
      obtain ⟨hb, rfl⟩ := hx.ptr_inv
      cases hall : v.cells.all AV.cell with
      | false => simp [hall] at h
      | true =>
        simp only [hall, cond_true] at h
        obtain ⟨hvs, hone⟩ := hv.cells hall
        obtain ⟨H', hs, h⟩ := Option.bind_eq_some_iff.1 h
        unfold Hp.sto at hs
        split at hs
        · rename_i y hy
          split at hs
          · rename_i hc
            obtain ⟨hro, hle⟩ := hc
            simp only [Option.some.injEq] at hs; subst hs
            obtain ⟨c, e, fz, h1, h2, h3, h4, h5⟩ := hi.hr.live b y hy
            obtain rfl := h4 hro
            have hn := hvs.length
            have hn' : rv.cells.size = v.cells.length := by simpa using hn
            have hst := run_storeCells_at (P := P) (E.be b) p e rv.cells.toList 0 c w h1 (by simp; omega) hone
            simp only [Nat.add_zero] at hst
            refine ⟨s, _, _, h, ?_, hi.stoH b _ hy hro h1 (c' := (c.toList.take p ++ rv.cells.toList ++ c.toList.drop (p + rv.cells.toList.length)).toArray) ?_ ?_ ?_⟩
            · simp only [Instr.storeAt, Instr.sureAddr, storeVar, Sem.run_bind, Sem.run_pure, Result.andThen_ok, run_sz hin, Sem.run_ite]
              rw [if_neg (by rw [hn', hsz]; simp)]
              simpa using hst
            · simp; omega
            · simp; omega
            · intro j u hu
              have := splice_ok (c := c.toList) (by simpa using h2) (fun i v hv => by simpa using h5 i v hv) hvs hle j u hu
              simpa using this
          · simp at hs
        · simp at hs
    | lp y p =>
      simp only at h
      obtain rfl := hx.lp_inv
      cases hall : v.cells.all AV.cell with
      | false => simp [hall] at h
      | true =>
        simp only [hall, cond_true] at h
        obtain ⟨hvs, hone⟩ := hv.cells hall
        obtain ⟨l, hl, h⟩ := Option.bind_eq_some_iff.1 h
        obtain ⟨l', hl', h⟩ := Option.bind_eq_some_iff.1 h
        obtain ⟨hlo, c, e, hc, hsi, hg⟩ := LR.cells hi hl
        obtain ⟨k1, k2⟩ := put_ok hg hvs hl'
        have hn' : rv.cells.size = v.cells.length := by simpa using hvs.length
        have hst := run_storeCells_at (P := P) (la y) p e rv.cells.toList 0 c w hc (by simpa using k1) hone
        simp only [Nat.add_zero] at hst
        refine ⟨_, H, _, h, ?_, hi.stoL y l' l hlo hc (c' := (c.toList.take p ++ rv.cells.toList ++ c.toList.drop (p + rv.cells.toList.length)).toArray) ?_ (by simpa using k2)⟩
        · simp only [Instr.storeAt, Instr.sureAddr, storeVar, Sem.run_bind, Sem.run_pure, Result.andThen_ok, run_sz hin, Sem.run_ite]
          rw [if_neg (by rw [hn', hsz]; simp)]
          simpa using hst
        · simp at k1 ⊢; omega
    | _ => simp at h
  · simp at h
end

end Go.Proofs.Ytoalafkpkllebaa.Ab
