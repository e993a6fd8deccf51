/- Steps of the memory: what is made, stored, given up. No conditions. -/
import Derived.Test.YtoalafkpkllebaaAr
set_option linter.unusedVariables false
set_option linter.unusedSimpArgs false
namespace Go.Proofs.Ytoalafkpkllebaa.Ab
open Go

def En.up (E : En) (sz : Nat) : En := ⟨E.nb, E.nr + 1, E.be, fun r => if r = E.nr then sz else E.si r⟩
def En.add (E : En) (r : Nat) : En := ⟨E.nb + 1, E.nr, fun b => if b = E.nb then r else E.be b, E.si⟩
theorem HR.le_up {E : En} {H : Hp} {w : World} (h : HR E H w) (sz : Nat) : EnLe E (E.up sz) :=
  ⟨Nat.le_refl _, Nat.le_succ _, h.lt, fun _ _ => rfl, fun r hr => if_neg (Nat.ne_of_lt hr)⟩
theorem HR.le_add {E : En} {H : Hp} {w : World} (h : HR E H w) (r : Nat) : EnLe E (E.add r) :=
  ⟨Nat.le_succ _, Nat.le_refl _, h.lt, fun b hb => if_neg (Nat.ne_of_lt hb), fun _ _ => rfl⟩
theorem HR.blt {E : En} {H : Hp} {w : World} (h : HR E H w) {b : Nat} {x : Option Blk} (hb : H[b]? = some x) : b < E.nb := by rw [h.nb]; exact (List.getElem?_eq_some_iff.1 hb).1
theorem HR.up {E : En} {H : Hp} {w : World} (h : HR E H w) (sz : Nat) (o : Obj) : HR (E.up sz) H (w.alloc o) where
  nb := h.nb
  nr := by show E.nr + 1 = (w.heap.push o).size; rw [Array.size_push, h.nr]
  lt b hb := Nat.lt_succ_of_lt (h.lt b hb)
  live b x hb := by
    obtain ⟨c, e, fz, h1, h2, h3, h4, h5⟩ := h.live b x hb
    have hlt := h.lt b (h.blt hb)
    refine ⟨c, e, fz, ?_, h2, ?_, h4, ?_⟩
    · exact (heap_alloc_old w o (E.be b) (by rw [← h.nr]; exact hlt)).trans h1
    · exact (if_neg (Nat.ne_of_lt hlt)).trans h3
    · intro i v hv
      obtain ⟨rv, k1, k2⟩ := h5 i v hv
      exact ⟨rv, k1, k2.mono (h.le_up sz)⟩
  inj := h.inj
theorem getElem?_snoc {α : Type} (l : List α) (x : α) (b : Nat) : (l ++ [x])[b]? = if b = l.length then some x else l[b]? := by
  by_cases hb : b = l.length
  · subst hb; simp
  · rw [if_neg hb]
    rcases Nat.lt_or_gt_of_ne hb with h | h
    · rw [List.getElem?_append_left h]
    · rw [List.getElem?_eq_none (by simp; omega), List.getElem?_eq_none (by omega)]
theorem HR.add {E : En} {H : Hp} {w : World} (h : HR E H w) (r : Nat) (l : List AV) {c : Array Value} {e : TypeId} (hc : w.heap[r]? = some (.cells c e (0, 0))) (hs : E.si r = c.size) (hl : l.length ≤ c.size)
    (hg : ∀ (i : Nat) v, l[i]? = some v → ∃ rv, c[i]? = some rv ∧ GR E v rv) (hf : ∀ b x, H[b]? = some (some x) → E.be b ≠ r) : HR (E.add r) (H ++ [some ⟨false, l⟩]) w where
  nb := by show E.nb + 1 = _; rw [List.length_append, h.nb]; rfl
  nr := h.nr
  lt b hb := by
    have hr : r < E.nr := by rw [h.nr]; exact (Array.getElem?_eq_some_iff.1 hc).1
    show (if b = E.nb then r else E.be b) < E.nr
    split
    · exact hr
    · have hb' : b < E.nb + 1 := hb
      exact h.lt b (by omega)
  live b x hb := by
    rw [getElem?_snoc] at hb
    split at hb
    · rename_i hbl
      simp only [Option.some.injEq] at hb
      subst hb
      refine ⟨c, e, (0, 0), ?_, hl, ?_, fun _ => rfl, ?_⟩
      · show w.heap[if b = E.nb then r else E.be b]? = _
        rw [if_pos (by rw [h.nb]; exact hbl)]; exact hc
      · show E.si (if b = E.nb then r else E.be b) = _
        rw [if_pos (by rw [h.nb]; exact hbl)]; exact hs
      · intro i v hv
        obtain ⟨rv, k1, k2⟩ := hg i v hv
        exact ⟨rv, k1, k2.mono (h.le_add r)⟩
    · rename_i hbl
      obtain ⟨c', e', fz, h1, h2, h3, h4, h5⟩ := h.live b x hb
      have hne : ¬ b = E.nb := by rw [h.nb]; exact hbl
      refine ⟨c', e', fz, ?_, h2, ?_, h4, ?_⟩
      · show w.heap[if b = E.nb then r else E.be b]? = _
        rw [if_neg hne]; exact h1
      · show E.si (if b = E.nb then r else E.be b) = _
        rw [if_neg hne]; exact h3
      · intro i v hv
        obtain ⟨rv, k1, k2⟩ := h5 i v hv
        exact ⟨rv, k1, k2.mono (h.le_add r)⟩
  inj b b' x x' hb hb' hne hro := by
    show (if b = E.nb then r else E.be b) ≠ (if b' = E.nb then r else E.be b')
    rw [getElem?_snoc] at hb hb'
    by_cases h1 : b = H.length
    · by_cases h2 : b' = H.length
      · omega
      · rw [if_neg h2] at hb'
        rw [if_pos (by rw [h.nb]; exact h1), if_neg (by rw [h.nb]; exact h2)]
        exact fun e => hf b' x' hb' e.symm
    · rw [if_neg h1] at hb
      rw [if_neg (by rw [h.nb]; exact h1)]
      by_cases h2 : b' = H.length
      · rw [if_pos (by rw [h.nb]; exact h2)]
        exact hf b x hb
      · rw [if_neg h2] at hb'
        rw [if_neg (by rw [h.nb]; exact h2)]
        exact h.inj b b' x x' hb hb' hne hro
theorem getElem?_kill {H : Hp} {b b' : Nat} {x : Blk} (h : (H.set b none)[b']? = some (some x)) : b' ≠ b ∧ H[b']? = some (some x) := by
  by_cases hb : b = b'
  · subst hb
    rw [List.getElem?_set_self'] at h
    cases ht : H[b]? with
    | none => simp [ht] at h
    | some y => simp [ht] at h
  · rw [List.getElem?_set_ne hb] at h
    exact ⟨fun e => hb e.symm, h⟩
theorem HR.kill {E : En} {H : Hp} {w : World} (h : HR E H w) (b : Nat) : HR E (H.set b none) w where
  nb := by rw [List.length_set]; exact h.nb
  nr := h.nr
  lt := h.lt
  live b' x hb := h.live b' x (getElem?_kill hb).2
  inj b1 b2 x x' h1 h2 := h.inj b1 b2 x x' (getElem?_kill h1).2 (getElem?_kill h2).2
/-- The memory changes where no block of the heap lies. -/
theorem HR.frame {E : En} {H : Hp} {w w' : World} (h : HR E H w) (hs : w'.heap.size = w.heap.size) (hf : ∀ b x, H[b]? = some (some x) → w'.heap[E.be b]? = w.heap[E.be b]?) : HR E H w' where
  nb := h.nb
  nr := h.nr.trans hs.symm
  lt := h.lt
  live b x hb := by
    obtain ⟨c, e, fz, h1, rest⟩ := h.live b x hb
    exact ⟨c, e, fz, (hf b x hb).trans h1, rest⟩
  inj := h.inj

theorem setRow_size (w : World) (g : Nat) (cs : Array Value) : (w.setRow g cs).heap.size = w.heap.size := by simp [World.setRow]
/-- A block's cells are stored anew. -/
theorem HR.sto {E : En} {H : Hp} {w : World} (h : HR E H w) (b : Nat) (l : List AV) {c c' : Array Value} {e : TypeId} {x : Blk} (hb : H[b]? = some (some x)) (hro : x.ro = false) (hc : w.heap[E.be b]? = some (.cells c e (0, 0))) (hs : c'.size = c.size)
    (hl : l.length ≤ c'.size) (hg : ∀ (i : Nat) v, l[i]? = some v → ∃ rv, c'[i]? = some rv ∧ GR E v rv) : HR E (H.set b (some ⟨false, l⟩)) (w.setRow (E.be b) c') where
  nb := by rw [List.length_set]; exact h.nb
  nr := by rw [setRow_size]; exact h.nr
  lt := h.lt
  live b' y hy := by
    by_cases hbb : b = b'
    · subst hbb
      rw [List.getElem?_set_self', hb] at hy
      simp at hy
      obtain ⟨c0, e0, fz, h1, h2, h3, h4, h5⟩ := h.live b x hb
      rw [hc] at h1
      obtain ⟨rfl, rfl, rfl⟩ : c = c0 ∧ e = e0 ∧ (0, 0) = fz := by simpa using h1
      subst hy
      exact ⟨c', e, (0, 0), setRow_heap w _ c c' e _ hc, hl, h3.trans hs.symm, fun _ => rfl, hg⟩
    · rw [List.getElem?_set_ne hbb] at hy
      obtain ⟨c0, e0, fz, h1, rest⟩ := h.live b' y hy
      refine ⟨c0, e0, fz, ?_, rest⟩
      rw [setRow_other w (E.be b) (E.be b') c' (fun e => h.inj b b' x y hb hy hbb hro e.symm)]
      exact h1
  inj b1 b2 y y' h1 h2 hne hr := by
    have old : ∀ {b' : Nat} {y : Blk}, (H.set b (some ⟨false, l⟩))[b']? = some (some y) → ∃ y0, H[b']? = some (some y0) ∧ (y.ro = false → y0.ro = false) := by
      intro b' y hy
      by_cases hbb : b = b'
      · subst hbb; exact ⟨x, hb, fun _ => hro⟩
      · rw [List.getElem?_set_ne hbb] at hy; exact ⟨y, hy, id⟩
    obtain ⟨y0, k1, k2⟩ := old h1
    obtain ⟨y0', k1', _⟩ := old h2
    exact h.inj b1 b2 y0 y0' k1 k1' hne (k2 hr)

/-! ### The state of a call -/
section
variable {E0 : En} {H0 : Hp} {w0 : World} {E : En} {la : Nat → Nat} {s : St} {H : Hp} {a : Act} {w : World}

/-- A variable of the call's own is made. -/
theorem Inv.makeL (h : Inv E0 H0 w0 E la s H a w) (d : Nat) (hd : s.fresh d = true) (hlt : d < s.lo.length) (l : List AV) (c : Array Value) (e : TypeId) (hg : GRs E l c.toList) :
    ∃ E' la', Inv E0 H0 w0 E' la' (s.setLo d (some l)) H a (w.alloc (.cells c e)) ∧ la' d = w.heap.size := by
  have hfr : (∀ v ∈ s.tm, v.onT d = false) := by
    intro v hv
    unfold St.fresh at hd
    simpa using List.all_eq_true.1 hd v hv
  have hle := h.hr.le_up c.size
  refine ⟨E.up c.size, fun t => if t = d then w.heap.size else la t, ⟨h.hr.up c.size _, ?_, ?_, ?_, h.df⟩, if_pos rfl⟩
  · have lv : ∀ {t : Nat} {m : List AV}, (s.lo.set d (some l))[t]? = some (some m) → (t = d ∧ m = l) ∨ (t ≠ d ∧ s.lo[t]? = some (some m)) := by
      intro t m hm
      by_cases ht : d = t
      · subst ht
        rw [List.getElem?_set_self', List.getElem?_eq_getElem hlt] at hm
        simp at hm
        exact .inl ⟨rfl, hm.symm⟩
      · rw [List.getElem?_set_ne ht] at hm
        exact .inr ⟨fun e => ht e.symm, hm⟩
    have n0 : E0.nr ≤ w.heap.size := by rw [← h.hr.nr]; exact h.st.le.nr
    refine ⟨fun t m hm => ?_, fun t m b x hm hb => ?_, fun t t' m m' hm hm' hne => ?_⟩
    · rcases lv hm with ⟨rfl, rfl⟩ | ⟨ht, hm⟩
      · refine ⟨c, e, ?_, ?_, ?_, hg.mono hle⟩
        · rw [if_pos rfl]; exact heap_alloc_new w _
        · rw [if_pos rfl]; exact n0
        · rw [if_pos rfl]; exact if_pos h.hr.nr.symm
      · obtain ⟨c', e', k1, k2, k3, k4⟩ := h.lr.live t m hm
        have hlt' := h.lr.lt hm
        refine ⟨c', e', ?_, ?_, ?_, k4.mono hle⟩
        · rw [if_neg ht, heap_alloc_old w _ _ hlt']; exact k1
        · rw [if_neg ht]; exact k2
        · rw [if_neg ht]; exact (hle.si _ (by rw [h.hr.nr]; exact hlt')).trans k3
    · have hb' : E.be b < w.heap.size := by rw [← h.hr.nr]; exact h.hr.lt b (h.hr.blt hb)
      rcases lv hm with ⟨rfl, rfl⟩ | ⟨ht, hm⟩
      · rw [if_pos rfl]; show w.heap.size ≠ E.be b; omega
      · rw [if_neg ht]; exact h.lr.sep t m b x hm hb
    · rcases lv hm with ⟨rfl, rfl⟩ | ⟨ht, hq⟩
      · rcases lv hm' with ⟨rfl, rfl⟩ | ⟨ht', hq'⟩
        · exact absurd rfl hne
        · rw [if_pos rfl, if_neg ht']; have := h.lr.lt hq'; omega
      · rcases lv hm' with ⟨rfl, rfl⟩ | ⟨ht', hq'⟩
        · rw [if_neg ht, if_pos rfl]; have := h.lr.lt hq; omega
        · rw [if_neg ht, if_neg ht']; exact h.lr.inj t t' m m' hq hq' hne
  · refine ⟨h.tr.1, fun i v hv => ?_⟩
    obtain ⟨rv, k1, k2⟩ := h.tr.2 i v hv
    exact ⟨rv, k1, (k2.mono hle).other d (hfr v (List.mem_of_getElem? hv)) fun x hx => if_neg hx⟩
  · refine h.st.trans ⟨hle, fun r hr _ => heap_alloc_old w _ r (by rw [← h.hr.nr]; exact hr), fun b x hb hr _ => ⟨b, x, hb, hr, rfl⟩, fun b x hb _ => ⟨h.hr.blt hb, hb⟩, rfl, rfl, rfl⟩

/-- A block of the heap is made. -/
theorem Inv.makeH (h : Inv E0 H0 w0 E la s H a w) (l : List AV) (c : Array Value) (e : TypeId) (hl : l.length ≤ c.size) (hg : ∀ (i : Nat) v, l[i]? = some v → ∃ rv, c[i]? = some rv ∧ GR E v rv) :
    ∃ E', Inv E0 H0 w0 E' la s (H ++ [some ⟨false, l⟩]) a (w.alloc (.cells c e)) ∧ EnLe E E' ∧ E'.be H.length = w.heap.size ∧ E'.nb = H.length + 1 ∧ E'.si w.heap.size = c.size := by
  have hle := h.hr.le_up c.size
  have hu := h.hr.up c.size (.cells c e)
  have hle2 := hu.le_add w.heap.size
  have hsz : (E.up c.size).si w.heap.size = c.size := if_pos h.hr.nr.symm
  have hfar : ∀ b x, H[b]? = some (some x) → (E.up c.size).be b ≠ w.heap.size := by
    intro b x hb
    have := h.hr.lt b (h.hr.blt hb)
    rw [h.hr.nr] at this
    exact Nat.ne_of_lt this
  have ha := hu.add w.heap.size l (c := c) (e := e) (heap_alloc_new w _) hsz hl (fun i v hv => by
    obtain ⟨rv, k1, k2⟩ := hg i v hv
    exact ⟨rv, k1, k2.mono hle⟩) hfar
  have hb0 : ((E.up c.size).add w.heap.size).be H.length = w.heap.size := by
    show (if H.length = E.nb then w.heap.size else _) = _
    rw [if_pos h.hr.nb.symm]
  refine ⟨_, ⟨ha, ?_, h.tr.mono (hle.trans hle2), ?_, h.df⟩, hle.trans hle2, hb0, ?_, hsz⟩
  · refine ⟨fun t m hm => ?_, fun t m b x hm hb => ?_, h.lr.inj⟩
    · obtain ⟨c', e', k1, k2, k3, k4⟩ := h.lr.live t m hm
      exact ⟨c', e', (heap_alloc_old w _ _ (h.lr.lt hm)).trans k1, k2, ((hle.trans hle2).si _ (by rw [h.hr.nr]; exact h.lr.lt hm)).trans k3, k4.mono (hle.trans hle2)⟩
    · rw [getElem?_snoc] at hb
      show la t ≠ (if b = E.nb then w.heap.size else E.be b)
      split at hb
      · rename_i hbl
        rw [if_pos (by rw [h.hr.nb]; exact hbl)]
        exact Nat.ne_of_lt (h.lr.lt hm)
      · rename_i hbl
        rw [if_neg (by rw [h.hr.nb]; exact hbl)]
        exact h.lr.sep t m b x hm hb
  · refine h.st.trans ⟨hle.trans hle2, fun r hr _ => heap_alloc_old w _ r (by rw [← h.hr.nr]; exact hr), fun b x hb hr hlt => ?_, fun b x hb hr => ?_, rfl, rfl, rfl⟩
    · rw [getElem?_snoc] at hb
      split at hb
      · rename_i hbl
        have e1 : ((E.up c.size).add w.heap.size).be b = w.heap.size := by rw [hbl]; exact hb0
        rw [e1, ← h.hr.nr] at hlt
        omega
      · rename_i hbl
        refine ⟨b, x, hb, hr, ?_⟩
        show E.be b = (if b = E.nb then w.heap.size else E.be b)
        rw [if_neg (by rw [h.hr.nb]; exact hbl)]
    · rw [getElem?_snoc] at hb
      split at hb
      · simp only [Option.some.injEq] at hb
        subst hb
        simp at hr
      · exact ⟨h.hr.blt hb, hb⟩
  · show E.nb + 1 = _; rw [h.hr.nb]

/-- A block of the heap is stored into. -/
theorem Inv.stoH (h : Inv E0 H0 w0 E la s H a w) (b : Nat) (l : List AV) {c c' : Array Value} {e : TypeId} {x : Blk} (hb : H[b]? = some (some x)) (hro : x.ro = false) (hc : w.heap[E.be b]? = some (.cells c e (0, 0))) (hs : c'.size = c.size)
    (hl : l.length ≤ c'.size) (hg : ∀ (i : Nat) v, l[i]? = some v → ∃ rv, c'[i]? = some rv ∧ GR E v rv) : Inv E0 H0 w0 E la s (H.set b (some ⟨false, l⟩)) a (w.setRow (E.be b) c') := by
  have live : ∀ {b' : Nat} {y : Blk}, (H.set b (some ⟨false, l⟩))[b']? = some (some y) → (b' = b ∧ y = ⟨false, l⟩) ∨ H[b']? = some (some y) := by
    intro b' y hy
    by_cases hbb : b = b'
    · subst hbb
      rw [List.getElem?_set_self', hb] at hy
      simp at hy
      exact .inl ⟨rfl, hy.symm⟩
    · rw [List.getElem?_set_ne hbb] at hy; exact .inr hy
  refine ⟨h.hr.sto b l hb hro hc hs hl hg, ⟨fun t m hm => ?_, fun t m b' y hm hy => ?_, h.lr.inj⟩, h.tr, ?_, h.df⟩
  · obtain ⟨c1, e1, k1, k2⟩ := h.lr.live t m hm
    refine ⟨c1, e1, ?_, k2⟩
    rw [setRow_other w _ _ _ (h.lr.sep t m b x hm hb)]
    exact k1
  · rcases live hy with ⟨rfl, rfl⟩ | hy
    · exact h.lr.sep t m _ x hm hb
    · exact h.lr.sep t m _ y hm hy
  · refine h.st.trans ⟨h.hr.le, fun r hr hx => ?_, fun b' y hy hr _ => ?_, fun b' y hy hr => ?_, rfl, rfl, rfl⟩
    · exact setRow_other w _ _ _ (fun e => hx b x hb hro e.symm)
    · rcases live hy with ⟨rfl, rfl⟩ | hy
      · exact ⟨_, x, hb, hro, rfl⟩
      · exact ⟨_, y, hy, hr, rfl⟩
    · rcases live hy with ⟨rfl, rfl⟩ | hy
      · simp at hr
      · exact ⟨h.hr.blt hy, hy⟩

/-- A variable of the call's own is stored into. -/
theorem Inv.stoL (h : Inv E0 H0 w0 E la s H a w) (t : Nat) (l m : List AV) {c c' : Array Value} {e : TypeId} (hm : s.lo[t]? = some (some m)) (hc : w.heap[la t]? = some (.cells c e (0, 0))) (hs : c'.size = c.size) (hg : GRs E l c'.toList) :
    Inv E0 H0 w0 E la (s.setLo t (some l)) H a (w.setRow (la t) c') := by
  have hlt : t < s.lo.length := (List.getElem?_eq_some_iff.1 hm).1
  have live : ∀ {t' : Nat} {y : List AV}, (s.lo.set t (some l))[t']? = some (some y) → (t' = t ∧ y = l) ∨ (t' ≠ t ∧ s.lo[t']? = some (some y)) := by
    intro t' y hy
    by_cases hbb : t = t'
    · subst hbb
      rw [List.getElem?_set_self', hm] at hy
      simp at hy
      exact .inl ⟨rfl, hy.symm⟩
    · rw [List.getElem?_set_ne hbb] at hy; exact .inr ⟨fun e => hbb e.symm, hy⟩
  have hn0 : E0.nr ≤ la t := by obtain ⟨_, _, _, k, _⟩ := h.lr.live t m hm; exact k
  refine ⟨h.hr.frame (setRow_size _ _ _) fun b x hb => setRow_other w _ _ _ (fun e => h.lr.sep t m b x hm hb e.symm), ⟨fun t' y hy => ?_, fun t' y b x hy hb => ?_, fun t1 t2 y y' h1 h2 hne => ?_⟩, h.tr, ?_, h.df⟩
  · rcases live hy with ⟨rfl, rfl⟩ | ⟨ht, hy⟩
    · obtain ⟨c2, e2, k1, _, k3, _⟩ := h.lr.live _ m hm
      rw [hc] at k1
      obtain ⟨rfl, _, _⟩ : c = c2 ∧ e = e2 ∧ True := by simpa using k1
      exact ⟨c', e, setRow_heap w _ c c' e _ hc, hn0, k3.trans hs.symm, hg⟩
    · obtain ⟨c1, e1, k1, k2⟩ := h.lr.live t' y hy
      refine ⟨c1, e1, ?_, k2⟩
      rw [setRow_other w _ _ _ (fun e => h.lr.inj t' t y m hy hm ht e)]
      exact k1
  · rcases live hy with ⟨rfl, rfl⟩ | ⟨ht, hy⟩
    · exact h.lr.sep _ m b x hm hb
    · exact h.lr.sep _ y b x hy hb
  · have old : ∀ {t' : Nat} {y : List AV}, (s.lo.set t (some l))[t']? = some (some y) → ∃ y0, s.lo[t']? = some (some y0) := by
      intro t' y hy
      rcases live hy with ⟨rfl, rfl⟩ | ⟨_, hy⟩
      · exact ⟨m, hm⟩
      · exact ⟨y, hy⟩
    obtain ⟨y0, k0⟩ := old h1
    obtain ⟨y1, k1⟩ := old h2
    exact h.lr.inj t1 t2 y0 y1 k0 k1 hne
  · have st := h.st
    refine ⟨st.le, fun r hr hx => ?_, st.own, st.roo, st.os, st.tape, st.output⟩
    rw [setRow_other w _ _ _ (by omega)]
    exact st.fr r hr hx

/-- Only the count of the draws has moved, or nothing. -/
theorem Inv.same {w' : World} (h : Inv E0 H0 w0 E la s H a w) (hh : w'.heap = w.heap) (ho : w'.os = w.os) (ht : w'.tape = w.tape) (hp : w'.output = w.output) : Inv E0 H0 w0 E la s H a w' := by
  refine ⟨h.hr.frame (by rw [hh]) fun _ _ _ => by rw [hh], ⟨fun t m hm => ?_, h.lr.sep, h.lr.inj⟩, h.tr, ⟨h.st.le, fun r hr hx => ?_, h.st.own, h.st.roo, ho.trans h.st.os, ht.trans h.st.tape, hp.trans h.st.output⟩, h.df⟩
  · rw [hh]; exact h.lr.live t m hm
  · rw [hh]; exact h.st.fr r hr hx

theorem Inv.put (h : Inv E0 H0 w0 E la s H a w) (d : Option Tmp) {v : AV} {rv : Value} (hv : VR E la v rv) : Inv E0 H0 w0 E la (s.put d v) H (a.put d rv) w := by
  cases d with
  | none => exact h
  | some d => exact ⟨h.hr, h.lr, h.tr.put d hv, h.st, h.df⟩

/-- A block is given up. -/
theorem Inv.kill (h : Inv E0 H0 w0 E la s H a w) (b : Nat) : Inv E0 H0 w0 E la s (H.set b none) a w := by
  refine ⟨h.hr.kill b, ⟨h.lr.live, fun t m b' x hm hb => h.lr.sep t m b' x hm (getElem?_kill hb).2, h.lr.inj⟩, h.tr, ⟨h.st.le, h.st.fr, fun b' x hb => h.st.own b' x (getElem?_kill hb).2, fun b' x hb => h.st.roo b' x (getElem?_kill hb).2, h.st.os, h.st.tape, h.st.output⟩, h.df⟩

/-- append in place: the elder block is given up, a longer one lies where it lay. -/
theorem Inv.appH (h : Inv E0 H0 w0 E la s H a w) (b : Nat) (l : List AV) {c c' : Array Value} {e : TypeId} {x : Blk} (hb : H[b]? = some (some x)) (hro : x.ro = false) (hc : w.heap[E.be b]? = some (.cells c e (0, 0))) (hs : c'.size = c.size)
    (hl : l.length ≤ c'.size) (hg : ∀ (i : Nat) v, l[i]? = some v → ∃ rv, c'[i]? = some rv ∧ GR E v rv) :
    Inv E0 H0 w0 (E.add (E.be b)) la s (H.set b none ++ [some ⟨false, l⟩]) a (w.setRow (E.be b) c') ∧ EnLe E (E.add (E.be b)) := by
  have hle := h.hr.le_add (E.be b)
  have hfar : ∀ b' y, (H.set b none)[b']? = some (some y) → E.be b' ≠ E.be b := fun b' y hy => fun e => h.hr.inj b b' x y hb (getElem?_kill hy).2 (getElem?_kill hy).1.symm hro e.symm
  have hk : HR E (H.set b none) (w.setRow (E.be b) c') := (h.hr.kill b).frame (setRow_size _ _ _) fun b' y hy => setRow_other w _ _ _ (hfar b' y hy)
  have hsi : E.si (E.be b) = c'.size := by
    obtain ⟨c0, e0, fz, h1, _, h3, _⟩ := h.hr.live b x hb
    rw [hc] at h1
    obtain ⟨rfl, _, _⟩ : c = c0 ∧ e = e0 ∧ (0, 0) = fz := by simpa using h1
    rw [hs]; exact h3
  have ha := hk.add (E.be b) l (setRow_heap w _ c c' e _ hc) hsi hl hg hfar
  have hlen : (H.set b none).length = H.length := List.length_set
  refine ⟨⟨ha, ⟨fun t m hm => ?_, fun t m b' y hm hy => ?_, h.lr.inj⟩, h.tr.mono hle, ?_, h.df⟩, hle⟩
  · obtain ⟨c1, e1, k1, k2, k3, k4⟩ := h.lr.live t m hm
    refine ⟨c1, e1, ?_, k2, k3, k4.mono hle⟩
    rw [setRow_other w _ _ _ (h.lr.sep t m b x hm hb)]
    exact k1
  · rw [getElem?_snoc] at hy
    show la t ≠ (if b' = E.nb then E.be b else E.be b')
    split at hy
    · rename_i hbl
      rw [if_pos (by rw [h.hr.nb, ← hlen]; exact hbl)]
      exact h.lr.sep t m b x hm hb
    · rename_i hbl
      rw [if_neg (by rw [h.hr.nb, ← hlen]; exact hbl)]
      exact h.lr.sep t m b' y hm (getElem?_kill hy).2
  · refine h.st.trans ⟨hle, fun r hr hx => setRow_other w _ _ _ (fun e => hx b x hb hro e.symm), fun b' y hy hr _ => ?_, fun b' y hy hr => ?_, rfl, rfl, rfl⟩
    · rw [getElem?_snoc] at hy
      split at hy
      · rename_i hbl
        refine ⟨b, x, hb, hro, ?_⟩
        show E.be b = (if b' = E.nb then E.be b else E.be b')
        rw [if_pos (by rw [h.hr.nb, ← hlen]; exact hbl)]
      · rename_i hbl
        refine ⟨b', y, (getElem?_kill hy).2, hr, ?_⟩
        show E.be b' = (if b' = E.nb then E.be b else E.be b')
        rw [if_neg (by rw [h.hr.nb, ← hlen]; exact hbl)]
    · rw [getElem?_snoc] at hy
      split at hy
      · simp only [Option.some.injEq] at hy
        subst hy
        simp at hr
      · exact ⟨h.hr.blt (getElem?_kill hy).2, (getElem?_kill hy).2⟩

/-- A variable of the call's own becomes a block of the heap. -/
theorem Inv.giveL (h : Inv E0 H0 w0 E la s H a w) (t : Nat) (l : List AV) (hm : s.lo[t]? = some (some l)) :
    ∃ E', Inv E0 H0 w0 E' la ⟨s.tm, s.lo.set t none⟩ (H ++ [some ⟨false, l⟩]) a w ∧ EnLe E E' ∧ E'.be H.length = la t ∧ E'.nb = H.length + 1 ∧ E'.si (la t) = l.length := by
  obtain ⟨c, e, hc, hn0, hsi, hg⟩ := h.lr.live t l hm
  have hle := h.hr.le_add (la t)
  have ha := h.hr.add (la t) l hc hsi (by have := hg.length; simp at this; omega) (fun i v hv => by
    obtain ⟨rv, k1, k2⟩ := hg.get i v hv
    exact ⟨rv, by simpa using k1, k2⟩) (fun b x hb e => h.lr.sep t l b x hm hb e.symm)
  have hb0 : (E.add (la t)).be H.length = la t := if_pos h.hr.nb.symm
  have lv : ∀ {t' : Nat} {y : List AV}, (s.lo.set t none)[t']? = some (some y) → t' ≠ t ∧ s.lo[t']? = some (some y) := by
    intro t' y hy
    by_cases ht : t = t'
    · subst ht
      rw [List.getElem?_set_self', hm] at hy
      simp at hy
    · rw [List.getElem?_set_ne ht] at hy
      exact ⟨fun e => ht e.symm, hy⟩
  refine ⟨_, ⟨ha, ⟨fun t' m hm' => ?_, fun t' m b' y hm' hy => ?_, fun t1 t2 m m' h1 h2 => h.lr.inj t1 t2 m m' (lv h1).2 (lv h2).2⟩, h.tr.mono hle, ?_, h.df⟩, hle, hb0, ?_, ?_⟩
  · obtain ⟨c1, e1, k1, k2, k3, k4⟩ := h.lr.live t' m (lv hm').2
    exact ⟨c1, e1, k1, k2, k3, k4.mono hle⟩
  · rw [getElem?_snoc] at hy
    show la t' ≠ (if b' = E.nb then la t else E.be b')
    split at hy
    · rename_i hbl
      rw [if_pos (by rw [h.hr.nb]; exact hbl)]
      exact h.lr.inj t' t m l (lv hm').2 hm (lv hm').1
    · rename_i hbl
      rw [if_neg (by rw [h.hr.nb]; exact hbl)]
      exact h.lr.sep t' m b' y (lv hm').2 hy
  · have st := h.st
    refine ⟨st.le.trans hle, st.fr, fun b' y hy hr hlt => ?_, fun b' y hy hr => ?_, st.os, st.tape, st.output⟩
    · rw [getElem?_snoc] at hy
      split at hy
      · rename_i hbl
        have e1 : (E.add (la t)).be b' = la t := by rw [hbl]; exact hb0
        omega
      · rename_i hbl
        have e1 : (E.add (la t)).be b' = E.be b' := if_neg (by rw [h.hr.nb]; exact hbl)
        rw [e1] at hlt ⊢
        exact st.own b' y hy hr hlt
    · rw [getElem?_snoc] at hy
      split at hy
      · simp only [Option.some.injEq] at hy
        subst hy
        simp at hr
      · exact st.roo b' y hy hr
  · show E.nb + 1 = _; rw [h.hr.nb]
  · show E.si (la t) = _
    rw [hsi]; have := hg.length; simpa using this

/-- What is forgotten. -/
theorem Inv.weaken {s' : St} (h : Inv E0 H0 w0 E la s H a w) (ht : s'.tm.length = s.tm.length) (h1 : ∀ (i : Nat) v, s'.tm[i]? = some v → v = .undef ∨ s.tm[i]? = some v) (h2 : ∀ (i : Nat) l, s'.lo[i]? = some (some l) → s.lo[i]? = some (some l)) : Inv E0 H0 w0 E la s' H a w := by
  refine ⟨h.hr, ⟨fun t m hm => h.lr.live t m (h2 t m hm), fun t m b x hm hb => h.lr.sep t m b x (h2 t m hm) hb, fun t t' m m' hm hm' => h.lr.inj t t' m m' (h2 t m hm) (h2 t' m' hm')⟩, ⟨h.tr.1.trans ht.symm, fun i v hv => ?_⟩, h.st, h.df⟩
  rcases h1 i v hv with rfl | hv'
  · have hi : i < a.tmps.size := by rw [h.tr.1, ← ht]; exact (List.getElem?_eq_some_iff.1 hv).1
    exact ⟨a.tmps[i], by simp [hi], .undef _⟩
  · exact h.tr.2 i v hv'
end

end Go.Proofs.Ytoalafkpkllebaa.Ab
