/- How the plain machine's values and heap stand for the program's memory. No conditions. -/
import Derived.Test.YtoalafkpkllebaaAb
import Derived.Laws.CopyRow
import Derived.Laws.AppendOwn
import Derived.Deep.MidRow
set_option linter.unusedVariables false
set_option linter.unusedSimpArgs false
namespace Go.Proofs.Ytoalafkpkllebaa.Ab
open Go

/-- Where the blocks lie: the number of blocks here and there, the place of each, the sizes there. -/
structure En where
  nb : Nat
  nr : Nat
  be : Nat → Nat
  si : Nat → Nat

mutual
inductive GR (E : En) : AV → Value → Prop
  | undef (v : Value) : GR E .undef v
  | bool (b : Bool) : GR E (.bool b) (.bool b)
  | int (k : IntKind) (n : Int) : GR E (.int k n) (.int k n)
  | nilp : GR E .nilp (.pointer none)
  | nilf : GR E .nilf .nilFunc
  | slnil (sz : Nat) (s : Sl) (hn : s.nil = true) (hl : s.len = 0) : GR E (.sl sz s) (.slice none 0 0)
  | slz (sz : Nat) (s : Sl) (a : Addr) (hn : s.nil = false) (hl : s.len = 0) : GR E (.sl sz s) (.slice (some a) 0 0)
  | sl (sz : Nat) (s : Sl) (cap : Nat) (hn : s.nil = false) (hb : s.blk < E.nb) (hc : s.len ≤ cap) (hs : s.off + cap * sz ≤ E.si (E.be s.blk)) : GR E (.sl sz s) (.slice (some ⟨E.be s.blk, s.off, none⟩) s.len cap)
  | ptr (b o : Nat) (hb : b < E.nb) : GR E (.ptr b o) (.pointer (some ⟨E.be b, o, none⟩))
  | fn (f : FuncId) (cs : List AV) (vs : List Value) (h : GRs E cs vs) : GR E (.fn f cs) (.func (.func f) #[] ⟨vs⟩)
inductive GRs (E : En) : List AV → List Value → Prop
  | nil : GRs E [] []
  | cons {v : AV} {rv : Value} {l : List AV} {rl : List Value} (h : GR E v rv) (t : GRs E l rl) : GRs E (v :: l) (rv :: rl)
end

structure EnLe (E E' : En) : Prop where
  nb : E.nb ≤ E'.nb
  nr : E.nr ≤ E'.nr
  lt : ∀ b, b < E.nb → E.be b < E.nr
  be : ∀ b, b < E.nb → E'.be b = E.be b
  si : ∀ r, r < E.nr → E'.si r = E.si r

mutual
theorem GR.mono {E E' : En} (h : EnLe E E') : ∀ {v : AV} {rv : Value}, GR E v rv → GR E' v rv
  | _, _, .undef v => .undef v
  | _, _, .bool b => .bool b
  | _, _, .int k n => .int k n
  | _, _, .nilp => .nilp
  | _, _, .nilf => .nilf
  | _, _, .slnil sz s hn hl => .slnil sz s hn hl
  | _, _, .slz sz s a hn hl => .slz sz s a hn hl
  | _, _, .sl sz s cap hn hb hc hs => by
    have e := h.be s.blk hb
    have := GR.sl (E := E') sz s cap hn (Nat.lt_of_lt_of_le hb h.nb) hc (by rw [e, h.si _ (h.lt _ hb)]; exact hs)
    rw [e] at this
    exact this
  | _, _, .ptr b o hb => by
    have := GR.ptr (E := E') b o (Nat.lt_of_lt_of_le hb h.nb)
    rw [h.be b hb] at this
    exact this
  | _, _, .fn f cs vs h2 => .fn f cs vs (GRs.mono h h2)
theorem GRs.mono {E E' : En} (h : EnLe E E') : ∀ {v : List AV} {rv : List Value}, GRs E v rv → GRs E' v rv
  | _, _, .nil => .nil
  | _, _, .cons a b => .cons (GR.mono h a) (GRs.mono h b)
end

theorem GRs.length {E : En} : ∀ {l : List AV} {rl : List Value}, GRs E l rl → rl.length = l.length
  | _, _, .nil => rfl
  | _, _, .cons _ t => by simp [GRs.length t]
theorem GRs.get {E : En} : ∀ {l : List AV} {rl : List Value}, GRs E l rl → ∀ (i : Nat) (v : AV), l[i]? = some v → ∃ rv, rl[i]? = some rv ∧ GR E v rv
  | _, _, .nil, i, v, h => by simp at h
  | _, _, .cons a t, 0, v, h => ⟨_, rfl, by simp at h; exact h ▸ a⟩
  | _, _, .cons a t, i + 1, v, h => by simpa using GRs.get t i v (by simpa using h)
theorem GRs.of_get {E : En} : ∀ (l : List AV) (rl : List Value), rl.length = l.length → (∀ (i : Nat) (v : AV), l[i]? = some v → ∃ rv, rl[i]? = some rv ∧ GR E v rv) → GRs E l rl
  | [], [], _, _ => .nil
  | [], _ :: _, h, _ => by simp at h
  | _ :: _, [], h, _ => by simp at h
  | v :: l, rv :: rl, hl, h => .cons (by obtain ⟨x, hx, hg⟩ := h 0 v rfl; simp at hx; exact hx ▸ hg) (GRs.of_get l rl (by simpa using hl) fun i v hv => by simpa using h (i + 1) v (by simpa using hv))
theorem GRs.append {E : En} : ∀ {l : List AV} {rl : List Value} {m : List AV} {rm : List Value}, GRs E l rl → GRs E m rm → GRs E (l ++ m) (rl ++ rm)
  | _, _, _, _, .nil, h => h
  | _, _, _, _, .cons a t, h => .cons a (GRs.append t h)
theorem GRs.take {E : En} : ∀ (n : Nat) {l : List AV} {rl : List Value}, GRs E l rl → GRs E (l.take n) (rl.take n)
  | 0, _, _, _ => by simpa using GRs.nil
  | n + 1, _, _, .nil => by simpa using GRs.nil
  | n + 1, _, _, .cons a t => by simpa using GRs.cons a (GRs.take n t)
theorem GRs.drop {E : En} : ∀ (n : Nat) {l : List AV} {rl : List Value}, GRs E l rl → GRs E (l.drop n) (rl.drop n)
  | 0, _, _, h => by simpa using h
  | n + 1, _, _, .nil => by simpa using GRs.nil
  | n + 1, _, _, .cons a t => by simpa using GRs.drop n t
theorem GRs.replicate {E : En} {v : AV} {rv : Value} (h : GR E v rv) : ∀ n, GRs E (List.replicate n v) (List.replicate n rv)
  | 0 => .nil
  | n + 1 => .cons h (GRs.replicate h n)
theorem GRs.flat {E : En} {l : List AV} {rl : List Value} (h : GRs E l rl) : ∀ n, GRs E (List.replicate n l).flatten (List.replicate n rl).flatten
  | 0 => by simpa using GRs.nil
  | n + 1 => by simpa [List.replicate_succ] using h.append (GRs.flat h n)

/-- A cell is one cell there, too. -/
theorem GR.one {E : En} {v : AV} {rv : Value} (h : GR E v rv) (hc : v.cell = true) : rv.oneCell' = true := by cases h <;> first | rfl | simp [AV.cell] at hc
theorem GR.cells_one {E : En} {v : AV} {rv : Value} (h : GR E v rv) (hc : v.cell = true) : rv.cells = #[rv] := by cases h <;> first | rfl | simp [AV.cell] at hc

/-- Values of the running call. -/
inductive VR (E : En) (la : Nat → Nat) : AV → Value → Prop
  | g {v : AV} {rv : Value} (h : GR E v rv) : VR E la v rv
  | nl : VR E la .nl (.slice none 0 0)
  | lp (t o : Nat) : VR E la (.lp t o) (.pointer (some ⟨la t, o, none⟩))
  | ls (sz t n : Nat) : VR E la (.ls sz t n) (.slice (some ⟨la t, 0, none⟩) n n)
  | agg {l : List AV} {vs : List Value} (h : GRs E l vs) : VR E la (.agg l) (.agg ⟨vs⟩)
  | tup {l : List AV} {vs : List Value} (hl : vs.length = l.length) (h : ∀ (i : Nat) (v : AV), l[i]? = some v → ∃ rv, vs[i]? = some rv ∧ (GR E v rv ∨ ∃ m ms, v = .agg m ∧ rv = .agg ⟨ms⟩ ∧ GRs E m ms)) : VR E la (.tup l) (.tuple ⟨vs⟩)

theorem VR.mono {E E' : En} {la : Nat → Nat} (h : EnLe E E') {v : AV} {rv : Value} (hv : VR E la v rv) : VR E' la v rv := by
  cases hv with
  | g g => exact .g (g.mono h)
  | nl => exact .nl
  | lp t o => exact .lp t o
  | ls sz t n => exact .ls sz t n
  | agg g => exact .agg (g.mono h)
  | tup hl g =>
    refine .tup hl fun i v hv => ?_
    obtain ⟨rv, h1, h2⟩ := g i v hv
    refine ⟨rv, h1, ?_⟩
    rcases h2 with h2 | ⟨m, ms, e1, e2, h2⟩
    · exact .inl (h2.mono h)
    · exact .inr ⟨m, ms, e1, e2, h2.mono h⟩
/-- The place of the call's own variable t matters to those alone that speak of it. -/
theorem VR.other {E : En} {la la' : Nat → Nat} {v : AV} {rv : Value} (t : Nat) (hv : VR E la v rv) (ht : v.onT t = false) (h : ∀ x, x ≠ t → la' x = la x) : VR E la' v rv := by
  cases hv with
  | g g => exact .g g
  | nl => exact .nl
  | lp x o =>
    have : x ≠ t := by simpa [AV.onT] using ht
    rw [← h x this]; exact .lp x o
  | ls sz x n =>
    have : x ≠ t := by simpa [AV.onT] using ht
    rw [← h x this]; exact .ls sz x n
  | agg g => exact .agg g
  | tup hl g => exact .tup hl g

/-- The heap here and the memory there. -/
structure HR (E : En) (H : Hp) (w : World) : Prop where
  nb : E.nb = H.length
  nr : E.nr = w.heap.size
  lt : ∀ b, b < E.nb → E.be b < E.nr
  live : ∀ b x, H[b]? = some (some x) → ∃ c e fz, w.heap[E.be b]? = some (.cells c e fz) ∧ x.cells.length ≤ c.size ∧ E.si (E.be b) = c.size ∧ (x.ro = false → fz = (0, 0)) ∧
    ∀ (i : Nat) v, x.cells[i]? = some v → ∃ rv, c[i]? = some rv ∧ GR E v rv
  inj : ∀ b b' x x', H[b]? = some (some x) → H[b']? = some (some x') → b ≠ b' → x.ro = false → E.be b ≠ E.be b'
theorem HR.le {E : En} {H : Hp} {w : World} (h : HR E H w) : EnLe E E := ⟨Nat.le_refl _, Nat.le_refl _, h.lt, fun _ _ => rfl, fun _ _ => rfl⟩

/-- From one state to a later one. -/
structure Step (E : En) (H : Hp) (w : World) (E' : En) (H' : Hp) (w' : World) : Prop where
  le : EnLe E E'
  fr : ∀ r, r < E.nr → (∀ b x, H[b]? = some (some x) → x.ro = false → E.be b ≠ r) → w'.heap[r]? = w.heap[r]?
  own : ∀ b x, H'[b]? = some (some x) → x.ro = false → E'.be b < E.nr → ∃ b0 x0, H[b0]? = some (some x0) ∧ x0.ro = false ∧ E.be b0 = E'.be b
  roo : ∀ b x, H'[b]? = some (some x) → x.ro = true → b < E.nb ∧ H[b]? = some (some x)
  os : w'.os = w.os
  tape : w'.tape = w.tape
  output : w'.output = w.output
theorem Step.refl {E : En} {H : Hp} {w : World} (h : HR E H w) : Step E H w E H w :=
  ⟨h.le, fun _ _ _ => rfl, fun b x hb hr _ => ⟨b, x, hb, hr, rfl⟩, fun b x hb _ => ⟨by rw [h.nb]; exact (List.getElem?_eq_some_iff.1 hb).1, hb⟩, rfl, rfl, rfl⟩
theorem EnLe.trans {E E' E'' : En} (h : EnLe E E') (k : EnLe E' E'') : EnLe E E'' :=
  ⟨Nat.le_trans h.nb k.nb, Nat.le_trans h.nr k.nr, h.lt, fun b hb => (k.be b (Nat.lt_of_lt_of_le hb h.nb)).trans (h.be b hb), fun r hr => (k.si r (Nat.lt_of_lt_of_le hr h.nr)).trans (h.si r hr)⟩
theorem Step.trans {E E' E'' : En} {H H' H'' : Hp} {w w' w'' : World} (h : Step E H w E' H' w') (k : Step E' H' w' E'' H'' w'') : Step E H w E'' H'' w'' where
  le := h.le.trans k.le
  fr r hr hx := by
    rw [k.fr r (Nat.lt_of_lt_of_le hr h.le.nr) ?_, h.fr r hr hx]
    intro b x hb hro e
    obtain ⟨b0, x0, h1, h2, h3⟩ := h.own b x hb hro (by rw [e]; exact hr)
    exact hx b0 x0 h1 h2 (h3.trans e)
  own b x hb hro hl := by
    obtain ⟨b0, x0, h1, h2, h3⟩ := k.own b x hb hro (Nat.lt_of_lt_of_le hl h.le.nr)
    obtain ⟨b1, x1, k1, k2, k3⟩ := h.own b0 x0 h1 h2 (by rw [h3]; exact hl)
    exact ⟨b1, x1, k1, k2, k3.trans h3⟩
  roo b x hb hro := by
    obtain ⟨_, h1⟩ := k.roo b x hb hro
    exact h.roo b x h1 hro
  os := k.os.trans h.os
  tape := k.tape.trans h.tape
  output := k.output.trans h.output

/-- The variables of the running call that lie in memory. -/
structure LR (E : En) (la : Nat → Nat) (lo : List (Option (List AV))) (H : Hp) (w : World) (n0 : Nat) : Prop where
  live : ∀ t l, lo[t]? = some (some l) → ∃ (c : Array Value) (e : TypeId), w.heap[la t]? = some (.cells c e (0, 0)) ∧ n0 ≤ la t ∧ E.si (la t) = c.size ∧ GRs E l c.toList
  sep : ∀ t l b x, lo[t]? = some (some l) → H[b]? = some (some x) → la t ≠ E.be b
  inj : ∀ t t' l l', lo[t]? = some (some l) → lo[t']? = some (some l') → t ≠ t' → la t ≠ la t'
theorem LR.lt {E : En} {la : Nat → Nat} {lo : List (Option (List AV))} {H : Hp} {w : World} {n0 : Nat} (h : LR E la lo H w n0) {t : Nat} {l : List AV} (hl : lo[t]? = some (some l)) : la t < w.heap.size := by
  obtain ⟨c, e, hc, _⟩ := h.live t l hl
  exact (Array.getElem?_eq_some_iff.1 hc).1

/-- The slots. -/
def TR (E : En) (la : Nat → Nat) (tm : List AV) (ts : Array Value) : Prop := ts.size = tm.length ∧ ∀ (i : Nat) (v : AV), tm[i]? = some v → ∃ rv, ts[i]? = some rv ∧ VR E la v rv
theorem TR.mono {E E' : En} {la : Nat → Nat} {tm : List AV} {ts : Array Value} (h : EnLe E E') (k : TR E la tm ts) : TR E' la tm ts :=
  ⟨k.1, fun i v hv => by obtain ⟨rv, h1, h2⟩ := k.2 i v hv; exact ⟨rv, h1, h2.mono h⟩⟩
theorem TR.put {E : En} {la : Nat → Nat} {tm : List AV} {ts : Array Value} (k : TR E la tm ts) (d : Nat) {v : AV} {rv : Value} (hv : VR E la v rv) : TR E la (tm.set d v) (ts.setIfInBounds d rv) := by
  refine ⟨by simp [k.1], fun i u hu => ?_⟩
  by_cases hi : d = i
  · subst hi
    rw [List.getElem?_set_self'] at hu
    cases ht : tm[d]? with
    | none => simp [ht] at hu
    | some y =>
      simp [ht] at hu
      subst hu
      have hlt := (List.getElem?_eq_some_iff.1 ht).1
      exact ⟨rv, by simp [Array.getElem?_setIfInBounds, k.1, hlt], hv⟩
  · rw [List.getElem?_set_ne hi] at hu
    obtain ⟨x, h1, h2⟩ := k.2 i u hu
    exact ⟨x, by simp [Array.getElem?_setIfInBounds_ne hi, h1], h2⟩

/-- The state of a running call that began at E0, H0, w0. -/
structure Inv (E0 : En) (H0 : Hp) (w0 : World) (E : En) (la : Nat → Nat) (s : St) (H : Hp) (a : Act) (w : World) : Prop where
  hr : HR E H w
  lr : LR E la s.lo H w E0.nr
  tr : TR E la s.tm a.tmps
  st : Step E0 H0 w0 E H w
  df : a.defers = []

theorem VR.undef {E : En} {la : Nat → Nat} (v : Value) : VR E la .undef v := .g (.undef v)
theorem TR.get {E : En} {la : Nat → Nat} {tm : List AV} {ts : Array Value} (k : TR E la tm ts) (i : Nat) : VR E la (tm.getD i .undef) (ts.getD i Go.undef) := by
  rw [List.getD_eq_getElem?_getD]
  cases h : tm[i]? with
  | none => exact .undef _
  | some v =>
    obtain ⟨rv, h1, h2⟩ := k.2 i v h
    have hd : ts.getD i Go.undef = rv := by rw [Array.getD_eq_getD_getElem?, h1]; rfl
    rw [hd]; exact h2
theorem ofC_vr {E : En} {la : Nat → Nat} (v : Value) : VR E la (ofC v) v := by
  unfold ofC
  split
  · exact .g (.bool _)
  · exact .g (.int _ _)
  · exact .nl
  · exact .g .nilp
  · exact .g .nilf
  · exact .undef _
theorem Inv.ev {E0 : En} {H0 : Hp} {w0 : World} {E : En} {la : Nat → Nat} {s : St} {H : Hp} {a : Act} {w : World} (h : Inv E0 H0 w0 E la s H a w) (x : Operand) : VR E la (s.ev x) (a.eval x) := by
  cases x with
  | tmp t => exact h.tr.get t
  | const v => exact ofC_vr v
  | func f => exact .g (.fn f [] [] .nil)
  | global g => exact .undef _
theorem fixN_vr {P : Program} {E : En} {la : Nat → Nat} (t : TypeId) {v : AV} {rv : Value} (h : VR E la v rv) : VR E la (fixN P t v) rv := by
  unfold fixN
  split
  · cases h with
    | g g => cases g
    | nl =>
      split
      · exact .g (.slnil _ _ rfl rfl)
      · exact .undef _
  · exact h
theorem VR.cellOf {E : En} {la : Nat → Nat} {v : AV} {rv : Value} (h : VR E la v rv) (hc : v.cell = true) : GR E v rv := by cases h <;> first | assumption | simp [AV.cell] at hc
theorem GRs.ones {E : En} : ∀ {l : List AV} {vs : List Value}, GRs E l vs → l.all AV.cell = true → ∀ u ∈ vs, u.oneCell' = true
  | _, _, .nil, _, u, hu => by cases hu
  | _, _, .cons g t, ha, u, hu => by
    simp only [List.all_cons, Bool.and_eq_true] at ha
    cases hu with
    | head => exact g.one ha.1
    | tail _ hm => exact t.ones ha.2 u hm
/-- The cells of a value that may lie in memory. -/
theorem VR.cells {E : En} {la : Nat → Nat} {v : AV} {rv : Value} (h : VR E la v rv) (hc : v.cells.all AV.cell = true) : GRs E v.cells rv.cells.toList ∧ (∀ u ∈ rv.cells.toList, u.oneCell' = true) := by
  cases h with
  | g g =>
    have hcell : v.cell = true := by cases v <;> simp_all [AV.cells, AV.cell]; cases g
    have e : v.cells = [v] := by cases v <;> first | rfl | simp [AV.cell] at hcell
    rw [e, g.cells_one hcell]
    exact ⟨.cons g .nil, fun u hu => by simp at hu; subst hu; exact g.one hcell⟩
  | nl => simp [AV.cells, AV.cell] at hc
  | lp t o => simp [AV.cells, AV.cell] at hc
  | ls sz t n => simp [AV.cells, AV.cell] at hc
  | agg g => exact ⟨g, g.ones hc⟩
  | tup hl g => simp [AV.cells, AV.cell] at hc

end Go.Proofs.Ytoalafkpkllebaa.Ab
