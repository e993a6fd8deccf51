/- Append, slices and literals of the plain machine do what the program's do. No conditions. -/
import Derived.Test.YtoalafkpkllebaaAp
set_option linter.unusedVariables false
set_option linter.unusedSimpArgs false
namespace Go.Proofs.Ytoalafkpkllebaa.Ab
open Go

section
variable {P : Program} {E0 : En} {H0 : Hp} {w0 : World} {E : En} {la : Nat → Nat} {s : St} {H : Hp} {a : Act} {w : World}

/-- What a slice holds. -/
theorem read_ok (hi : Inv E0 H0 w0 E la s H a w) {sz : Nat} {y : Sl} {rv : Value} {vs : List AV} (hv : GR E (.sl sz y) rv) (h : H.read sz y = some vs) (hpos : y.len ≠ 0) :
    ∃ b cap rvs, rv = .slice (some b) y.len cap ∧ rvs.length = y.len * sz ∧ (∀ (j : Nat) u, rvs[j]? = some u → w.cell? (b.add j) = some u) ∧ GRs E vs rvs := by
  unfold Hp.read at h
  rw [if_neg hpos] at h
  split at h
  · rename_i x hx
    split at h
    · rename_i hle
      simp at h; subst h
      cases hv with
      | slnil _ _ hn hl => exact absurd hl hpos
      | slz _ _ b hn hl => exact absurd hl hpos
      | sl _ _ cap hn hb hc hs =>
        obtain ⟨c, e, fz, h1, h2, h3, h4, h5⟩ := hi.hr.live _ x hx
        refine ⟨_, cap, (c.toList.drop y.off).take (y.len * sz), rfl, by simp; omega, ?_, ?_⟩
        · intro j u hu
          rw [Addr.add_mid, cell_of_row w _ _ c e fz h1]
          rw [List.getElem?_take] at hu
          split at hu
          · simpa using hu
          · simp at hu
        · refine GRs.of_get _ _ (by simp; omega) fun i v hv => ?_
          rw [List.getElem?_take] at hv
          split at hv
          · rename_i hlt
            rw [List.getElem?_drop] at hv
            obtain ⟨rv, k1, k2⟩ := h5 _ v hv
            exact ⟨rv, by rw [List.getElem?_take, if_pos hlt, List.getElem?_drop]; simpa using k1, k2⟩
          · simp at hv
    · simp at h
  · simp at h

theorem src_ok (hi : Inv E0 H0 w0 E la s H a w) {sz : Nat} {x : AV} {rx : Value} {K : Nat → List AV → An} {r : AV × Hp} (hx : VR E la x rx) (h : srcCells s H sz x K = some r) :
    ∃ n vs, K n vs = some r ∧ ((n = 0 ∧ ∃ ad, rx = .slice ad 0 0 ∨ (∃ c, rx = .slice ad 0 c)) ∨ (n ≠ 0 ∧ ∃ b cap rvs, rx = .slice (some b) n cap ∧ rvs.length = n * sz ∧ (∀ (j : Nat) u, rvs[j]? = some u → w.cell? (b.add j) = some u) ∧ GRs E vs rvs)) := by
  unfold srcCells at h
  cases x with
  | nl =>
    cases hx with
    | g g => cases g
    | nl => exact ⟨0, [], h, .inl ⟨rfl, none, .inl rfl⟩⟩
  | sl sz' y =>
    simp only at h
    split at h
    · rename_i hz
      subst hz
      obtain ⟨vs, h1, h2⟩ := Option.bind_eq_some_iff.1 h
      refine ⟨y.len, vs, h2, ?_⟩
      by_cases hpos : y.len = 0
      · refine .inl ⟨hpos, ?_⟩
        cases hx.sl_inv with
        | slnil => exact ⟨none, .inl rfl⟩
        | slz _ _ b => exact ⟨some b, .inl rfl⟩
        | sl _ _ cap => exact ⟨some ⟨E.be y.blk, y.off, none⟩, .inr ⟨cap, by rw [hpos]⟩⟩
      · exact .inr ⟨hpos, read_ok hi hx.sl_inv h1 hpos⟩
    · simp at h
  | ls sz' t n =>
    simp only at h
    split at h
    · rename_i hz
      subst hz
      obtain ⟨vs, h1, h2⟩ := Option.bind_eq_some_iff.1 h
      split at h2
      · rename_i hl
        obtain ⟨_, c, e, hc, _, hg⟩ := LR.cells hi h1
        obtain rfl := hx.ls_inv
        refine ⟨n, vs, h2, ?_⟩
        by_cases hpos : n = 0
        · exact .inl ⟨hpos, some ⟨la t, 0, none⟩, .inl (by rw [hpos])⟩
        · refine .inr ⟨hpos, _, n, c.toList, rfl, by rw [hg.length, hl], fun j u hu => ?_, hg⟩
          rw [Addr.add_mid, cell_of_row w _ _ c e _ hc]
          simpa using hu
      · simp at h2
    · simp at h
  | _ => simp at h

theorem Src.of0 {sz : Nat} {tx e' : TypeId} (hk : P.underlying tx = some (.slice e')) (ad : Option Addr) (c : Nat) (w : World) : Src P sz tx (.slice ad 0 c) 0 [] w := by
  cases ad with
  | none => exact Src.ofNil w hk c
  | some b => exact Src.ofSlice w hk b 0 c [] (by simp) (fun j u h => by simp at h) (fun u h => by cases h)

theorem by_of {t : TypeId} {i : TypeInfo} (h : P.info? t = some i) : byOf P t = i.bytes ∧ szOf P t = i.size := by simp [byOf, szOf, h]

theorem setCells_row {c : Array Value} {e : TypeId} {g o : Nat} {vs : List Value} (hc : w.heap[g]? = some (.cells c e (0, 0))) (hl : o + vs.length ≤ c.size) (h1 : ∀ u ∈ vs, u.oneCell' = true) :
    w.setCells g o vs = w.setRow g (c.toList.take o ++ vs ++ c.toList.drop (o + vs.length)).toArray := by
  have r1 := run_storeCells_at (P := default) g o e vs 0 c w hc (by simpa using hl) h1
  have r2 := run_storeCells_cells (P := default) g o vs 0 w (fun j hj => by
    rw [cell_of_row w _ _ c e _ hc, Array.getElem?_eq_getElem (by omega)]; rfl) (fun j hj => by simp [World.frozen?, hc]) h1
  simp only [Nat.add_zero] at r1 r2
  rw [r1] at r2
  injection r2 with _ h
  exact h.symm

/-- What an append hands on. -/
def AppN (P : Program) (E0 : En) (H0 : Hp) (w0 : World) (la : Nat → Nat) (s : St) (a : Act) (w : World) (t ty : TypeId) (rz rx : Value) (H' : Hp) (sz : Nat) (z' : Sl) : Prop :=
  ∃ E' rv w', (Builtin.append_ #[t, t] ty #[rz, rx]).run P w = .ok rv w' ∧ Inv E0 H0 w0 E' la s H' a w' ∧ GR E' (.sl sz z') rv

/-- append: a new row. -/
theorem grow_ok (hi : Inv E0 H0 w0 E la s H a w) {t e ty : TypeId} {i : TypeInfo} {zv : Value} (ht : P.underlying t = some (.slice e)) (hin : P.info? e = some i) (hzv : i.zero = some zv) (hzs : zv.cells.size = i.size) (hby : i.bytes ≤ 8192)
    {len n cp cap : Nat} {base : Option Addr} {b : Addr} {olds rvs : List Value} {xs vs : List AV} (hlen : len + n ≤ 1073741824) (hcp : cp < len + n) (hg : GRs E xs olds) (hxl : xs.length = len * i.size)
    (hold : (Builtin.firstCells i.size len (.slice base len cp)).run P w.drew = .ok olds.toArray w.drew) (hrl : rvs.length = n * i.size) (hrc : ∀ (j : Nat) u, rvs[j]? = some u → w.cell? (b.add j) = some u) (hrg : GRs E vs rvs) (hcell : vs.all AV.cell = true) :
    AppN P E0 H0 w0 la s a w t ty (.slice base len cp) (.slice (some b) n cap) (H ++ [some ⟨false, xs ++ vs⟩]) i.size ⟨false, H.length, 0, len + n⟩ := by
  have hone := hrg.ones hcell
  have hs := Src.ofSlice (P := P) w (size := i.size) (tx := t) ht b n cap rvs hrl hrc hone
  have hnb : (len + n) * i.bytes ≤ 140737488355328 := Nat.le_trans (Nat.mul_le_mul_left _ hby) (by omega)
  have h63 : ((len + n : Nat) : Int) ≤ 9223372036854775807 := by omega
  have hr := run_append_grow_src (P := P) w t t ty e i zv ht hin hzv base len cp olds hold _ n rvs hs hcp h63 (growslice_fits hcp hnb)
  have hd : Inv E0 H0 w0 E la s H a w.drew := hi.same rfl rfl rfl rfl
  have hol := hg.length
  have hrl' := hrg.length
  obtain ⟨E', k1, k2, k3, k4, k5⟩ := hd.makeH (xs ++ vs) ((olds ++ rvs).toArray ++ Builtin.zeroCells zv.cells (grownCap w (len + n) cp e - (len + n))) e (by
      simp; omega) (fun j v hv => by
    obtain ⟨rv, m1, m2⟩ := (hg.append hrg).get j v hv
    refine ⟨rv, ?_, m2⟩
    have hj : j < (olds ++ rvs).length := (List.getElem?_eq_some_iff.1 m1).1
    rw [Array.getElem?_append_left (by simpa using hj)]
    simpa using m1)
  refine ⟨E', _, _, hr, k1, ?_⟩
  have hge := grownCap_ge w (len + n) cp e
  have k3' : E'.be H.length = w.heap.size := k3
  have k5' : E'.si w.heap.size = grownCap w (len + n) cp e * i.size := by
    have h5 : E'.si w.heap.size = _ := k5
    rw [h5]
    simp only [Array.size_append, List.size_toArray, List.length_append, size_zeroCells, hzs]
    rw [hol, hxl, hrl, ← Nat.add_mul, ← Nat.add_mul]
    congr 1
    omega
  have g := GR.sl (E := E') i.size ⟨false, H.length, 0, len + n⟩ (grownCap w (len + n) cp e) rfl (by show H.length < E'.nb; omega) hge (by
    show 0 + _ * _ ≤ E'.si (E'.be H.length)
    rw [k3', k5']; omega)
  have e2 : (⟨E'.be (Sl.mk false H.length 0 (len + n)).blk, (Sl.mk false H.length 0 (len + n)).off, none⟩ : Addr) = ⟨w.heap.size, 0, none⟩ := by
    show (⟨E'.be H.length, 0, none⟩ : Addr) = _
    rw [k3']
  rw [e2] at g
  exact g

/-- append in place. -/
theorem room_ok (hi : Inv E0 H0 w0 E la s H a w) {t e ty : TypeId} {i : TypeInfo} (ht : P.underlying t = some (.slice e)) (hin : P.info? e = some i)
    {z : Sl} {n cp cap : Nat} {b : Addr} {rvs : List Value} {vs : List AV} {x : Blk} (hx : H[z.blk]? = some (some x)) (hro : x.ro = false) (hxl : z.len * i.size = x.cells.length) (hsz : 0 + cp * i.size ≤ E.si (E.be z.blk)) (hroom : z.len + n ≤ cp)
    (hrl : rvs.length = n * i.size) (hrc : ∀ (j : Nat) u, rvs[j]? = some u → w.cell? (b.add j) = some u) (hrg : GRs E vs rvs) (hcell : vs.all AV.cell = true) :
    AppN P E0 H0 w0 la s a w t ty (.slice (some ⟨E.be z.blk, 0, none⟩) z.len cp) (.slice (some b) n cap) (H.set z.blk none ++ [some ⟨false, x.cells ++ vs⟩]) i.size ⟨false, H.length, 0, z.len + n⟩ := by
  have hone := hrg.ones hcell
  have hs := Src.ofSlice (P := P) w (size := i.size) (tx := t) ht b n cap rvs hrl hrc hone
  obtain ⟨c, e', fz, g1, g2, g3, g4, g5⟩ := hi.hr.live _ x hx
  obtain rfl := g4 hro
  have hmul : (z.len + n) * i.size ≤ c.size := by
    have := Nat.mul_le_mul_right i.size hroom
    omega
  have hfit : z.len * i.size + rvs.length ≤ c.size := by rw [hrl, ← Nat.add_mul]; exact hmul
  have hr := run_append_room_src (P := P) w t t ty e i ht hin (E.be z.blk) 0 z.len cp _ n rvs hs hroom (fun j hj => by
    rw [cell_of_row w _ _ c e' _ g1, Array.getElem?_eq_getElem (by omega)]; rfl) (fun j hj => by simp [World.frozen?, g1])
  have hrow := setCells_row g1 (o := 0 + z.len * i.size) (by omega) hone
  rw [hrow] at hr
  have hvl := hrg.length
  obtain ⟨k1, k2⟩ := hi.appH z.blk (x.cells ++ vs) hx hro g1 (c' := (c.toList.take (0 + z.len * i.size) ++ rvs ++ c.toList.drop (0 + z.len * i.size + rvs.length)).toArray) (by simp; omega) (by simp; omega) (by
    intro j v hv
    by_cases hj : j < x.cells.length
    · rw [List.getElem?_append_left hj] at hv
      obtain ⟨rv, m1, m2⟩ := g5 j v hv
      refine ⟨rv, ?_, m2⟩
      rw [List.getElem?_toArray, List.append_assoc, List.getElem?_append_left (by simp; omega), List.getElem?_take, if_pos (by omega)]
      simpa using m1
    · rw [List.getElem?_append_right (by omega)] at hv
      obtain ⟨rv, m1, m2⟩ := hrg.get _ v hv
      have hj2 : j - x.cells.length < rvs.length := (List.getElem?_eq_some_iff.1 m1).1
      refine ⟨rv, ?_, m2⟩
      have e1 : (c.toList.take (0 + z.len * i.size)).length = x.cells.length := by simp; omega
      rw [List.getElem?_toArray, List.append_assoc, List.getElem?_append_right (by omega), e1, List.getElem?_append_left hj2]
      exact m1)
  refine ⟨_, _, _, hr, k1, ?_⟩
  have hb1 : (E.add (E.be z.blk)).be H.length = E.be z.blk := if_pos hi.hr.nb.symm
  have g := GR.sl (E := E.add (E.be z.blk)) i.size ⟨false, H.length, 0, z.len + n⟩ cp rfl (by show H.length < E.nb + 1; rw [hi.hr.nb]; omega) hroom (by
    show 0 + _ * _ ≤ E.si ((E.add (E.be z.blk)).be H.length)
    rw [hb1]; exact hsz)
  have e2 : (⟨(E.add (E.be z.blk)).be (Sl.mk false H.length 0 (z.len + n)).blk, (Sl.mk false H.length 0 (z.len + n)).off, none⟩ : Addr) = ⟨E.be z.blk, 0, none⟩ := by
    show (⟨(E.add (E.be z.blk)).be H.length, 0, none⟩ : Addr) = _
    rw [hb1]
  rw [e2] at g
  exact g

/-- append onto a slice of the heap. -/
theorem app_ok (hi : Inv E0 H0 w0 E la s H a w) {t e ty : TypeId} {i : TypeInfo} {zv : Value} (ht : P.underlying t = some (.slice e)) (hin : P.info? e = some i) (hzv : i.zero = some zv) (hzs : zv.cells.size = i.size) (hby : i.bytes ≤ 8192)
    {z z' : Sl} {rz rx : Value} {n : Nat} {vs : List AV} {H' : Hp} (hv : GR E (.sl i.size z) rz) (happ : H.app i.size z n vs = some (z', H')) (hcell : vs.all AV.cell = true)
    (hsrc : (n = 0 ∧ ∃ ad, rx = .slice ad 0 0 ∨ (∃ c, rx = .slice ad 0 c)) ∨ (n ≠ 0 ∧ ∃ b cap rvs, rx = .slice (some b) n cap ∧ rvs.length = n * i.size ∧ (∀ (j : Nat) u, rvs[j]? = some u → w.cell? (b.add j) = some u) ∧ GRs E vs rvs)) :
    AppN P E0 H0 w0 la s a w t ty rz rx H' i.size z' := by
  unfold Hp.app at happ
  split at happ
  · rename_i hb
    obtain ⟨hlen, hsz, hpos, hvl⟩ := hb
    rcases hsrc with ⟨hn, ad, hrx⟩ | ⟨hn, b, cap, rvs, hrx, hrl, hrc, hrg⟩
    · rw [if_pos hn] at happ
      simp only [Option.some.injEq, Prod.mk.injEq] at happ
      obtain ⟨rfl, rfl⟩ := happ
      have hrx' : ∃ c, rx = .slice ad 0 c := by
        rcases hrx with h | h
        · exact ⟨0, h⟩
        · exact h
      obtain ⟨c, rfl⟩ := hrx'
      have hs := Src.of0 (P := P) (sz := i.size) ht ad c w
      cases hv with
      | slnil _ _ h1 h2 => exact ⟨E, _, w, run_append_nothing w t t ty e i ht hin _ _ _ (Nat.le_refl _) _ hs, hi, .slnil _ _ h1 h2⟩
      | slz _ _ b h1 h2 => exact ⟨E, _, w, run_append_nothing w t t ty e i ht hin _ _ _ (Nat.le_refl _) _ hs, hi, .slz _ _ b h1 h2⟩
      | sl _ _ cap h1 h2 h3 h4 => exact ⟨E, _, w, run_append_nothing w t t ty e i ht hin _ _ _ h3 _ hs, hi, .sl _ _ cap h1 h2 h3 h4⟩
    · rw [if_neg hn] at happ
      subst hrx
      by_cases hnil : z.nil = true
      · rw [if_pos hnil] at happ
        simp only [Option.some.injEq, Prod.mk.injEq] at happ
        obtain ⟨rfl, rfl⟩ := happ
        cases hv with
        | slnil _ _ h1 h2 =>
          have := grow_ok hi (ty := ty) (base := none) (cap := cap) (len := 0) (cp := 0) (xs := []) (olds := []) ht hin hzv hzs hby (by omega) (by omega) .nil (by simp) (run_firstCells_none w.drew i.size 0 0 0) hrl hrc hrg hcell
          simpa using this
        | slz _ _ b h1 h2 => rw [hnil] at h1; cases h1
        | sl _ _ cap h1 => rw [hnil] at h1; cases h1
      · rw [if_neg hnil] at happ
        split at happ
        · rename_i x hx
          split at happ
          · rename_i hc
            obtain ⟨hro, hoff, hxl⟩ := hc
            simp only [Option.some.injEq, Prod.mk.injEq] at happ
            obtain ⟨rfl, rfl⟩ := happ
            have hblk : z.blk < H.length := (List.getElem?_eq_some_iff.1 hx).1
            have fin : AppN P E0 H0 w0 la s a w t ty rz (.slice (some b) n cap) (H ++ [some ⟨false, x.cells ++ vs⟩]) i.size ⟨false, H.length, 0, z.len + n⟩ → AppN P E0 H0 w0 la s a w t ty rz (.slice (some b) n cap) (H.set z.blk none ++ [some ⟨false, x.cells ++ vs⟩]) i.size ⟨false, H.length, 0, z.len + n⟩ := by
              rintro ⟨E', rv, w', h1, h2, h3⟩
              refine ⟨E', rv, w', h1, ?_, h3⟩
              have := h2.kill z.blk
              rwa [List.set_append_left _ _ hblk] at this
            cases hv with
            | slnil _ _ h1 h2 => exact absurd h1 hnil
            | slz _ _ b' h1 h2 =>
              have hx0 : x.cells = [] := List.eq_nil_of_length_eq_zero (by rw [← hxl, h2]; simp)
              refine fin ?_
              have := grow_ok hi (ty := ty) (base := some b') (cap := cap) (len := 0) (cp := 0) (xs := []) (olds := []) ht hin hzv hzs hby (by omega) (by omega) .nil (by simp) (run_firstCells_some w.drew i.size 0 b' 0 0 [] (by simp) (fun j u h => by simp at h)) hrl hrc hrg hcell
              rw [h2, hx0]
              simpa using this
            | sl _ _ cp h1 h2 h3 h4 =>
              rw [hoff] at h4 fin ⊢
              by_cases hroom : z.len + n ≤ cp
              · exact room_ok hi ht hin hx hro hxl h4 hroom hrl hrc hrg hcell
              · refine fin ?_
                obtain ⟨c, e', fz, g1, g2, g3, g4, g5⟩ := hi.hr.live _ x hx
                have hxg : GRs E x.cells (c.toList.take (z.len * i.size)) := GRs.of_get _ _ (by simp; omega) fun j v hv => by
                  obtain ⟨rv, m1, m2⟩ := g5 j v hv
                  refine ⟨rv, ?_, m2⟩
                  have hj : j < x.cells.length := (List.getElem?_eq_some_iff.1 hv).1
                  rw [List.getElem?_take, if_pos (by omega)]
                  simpa using m1
                refine grow_ok hi ht hin hzv hzs hby hlen (by omega) hxg hxl.symm ?_ hrl hrc hrg hcell
                exact run_firstCells_some w.drew i.size z.len _ z.len cp _ (by simp; omega) (fun j u hu => by
                  rw [Addr.add_mid]
                  show w.cell? _ = _
                  rw [cell_of_row w _ _ c e' _ g1]
                  rw [List.getElem?_take] at hu
                  split at hu
                  · simpa using hu
                  · simp at hu)
          · simp at happ
        · simp at happ
  · simp at happ

/-- append onto a literal of the call's own. -/
theorem appl_ok (hi : Inv E0 H0 w0 E la s H a w) {t e ty : TypeId} {i : TypeInfo} {zv : Value} (ht : P.underlying t = some (.slice e)) (hin : P.info? e = some i) (hzv : i.zero = some zv) (hzs : zv.cells.size = i.size) (hby : i.bytes ≤ 8192)
    {z' : Sl} {rx : Value} {y m n : Nat} {l vs : List AV} {H' : Hp} (hl : s.getLo y = some l) (happ : H.appl i.size l m n vs = some (z', H')) (hcell : vs.all AV.cell = true)
    (hsrc : (n = 0 ∧ ∃ ad, rx = .slice ad 0 0 ∨ (∃ c, rx = .slice ad 0 c)) ∨ (n ≠ 0 ∧ ∃ b cap rvs, rx = .slice (some b) n cap ∧ rvs.length = n * i.size ∧ (∀ (j : Nat) u, rvs[j]? = some u → w.cell? (b.add j) = some u) ∧ GRs E vs rvs)) :
    AppN P E0 H0 w0 la (s.forget y) a w t ty (.slice (some ⟨la y, 0, none⟩) m m) rx H' i.size z' := by
  obtain ⟨hlo, c, e', hc, hsi, hg⟩ := LR.cells hi hl
  unfold Hp.appl at happ
  have hfor : ∀ {E' : En} {H' : Hp} {w' : World} {lo : List (Option (List AV))}, Inv E0 H0 w0 E' la ⟨s.tm, lo⟩ H' a w' → (∀ (j : Nat) q, (s.lo.set y none)[j]? = some (some q) → lo[j]? = some (some q)) → Inv E0 H0 w0 E' la (s.forget y) H' a w' := by
    intro E' H' w' lo h hlo'
    refine h.weaken (by simp [St.forget]) (fun j v hv => ?_) (fun j q hq => hlo' j q hq)
    simp only [St.forget, List.getElem?_map, Option.map_eq_some_iff] at hv
    obtain ⟨u, h1, h2⟩ := hv
    cases ho : u.onT y with
    | true => simp [ho] at h2; exact .inl h2.symm
    | false => simp [ho] at h2; subst h2; exact .inr h1
  split at happ
  · rename_i hb
    obtain ⟨hlen, hsz, hpos, hvl, hll⟩ := hb
    simp only [Option.some.injEq, Prod.mk.injEq] at happ
    obtain ⟨rfl, rfl⟩ := happ
    rcases hsrc with ⟨hn, ad, hrx⟩ | ⟨hn, b, cap, rvs, hrx, hrl, hrc, hrg⟩
    · have hrx' : ∃ c, rx = .slice ad 0 c := by
        rcases hrx with h | h
        · exact ⟨0, h⟩
        · exact h
      obtain ⟨cc, rfl⟩ := hrx'
      subst hn
      have hv0 : vs = [] := List.eq_nil_of_length_eq_zero (by rw [hvl]; simp)
      subst hv0
      have hs := Src.of0 (P := P) (sz := i.size) ht ad cc w
      obtain ⟨E', k1, k2, k3, k4, k5⟩ := hi.giveL y l hlo
      refine ⟨E', _, w, run_append_nothing w t t ty e i ht hin _ _ _ (Nat.le_refl _) _ hs, by simpa using hfor k1 (fun j q hq => hq), ?_⟩
      have g := GR.sl (E := E') i.size ⟨false, H.length, 0, m⟩ m rfl (by show H.length < E'.nb; omega) (Nat.le_refl _) (by
        show 0 + _ * _ ≤ E'.si (E'.be H.length)
        rw [k3, k5, hll]; omega)
      have e2 : (⟨E'.be (Sl.mk false H.length 0 m).blk, (Sl.mk false H.length 0 m).off, none⟩ : Addr) = ⟨la y, 0, none⟩ := by
        show (⟨E'.be H.length, 0, none⟩ : Addr) = _
        rw [k3]
      rw [e2] at g
      simpa using g
    · subst hrx
      have hgl := hg.length
      have := grow_ok hi (ty := ty) (base := some ⟨la y, 0, none⟩) (cap := cap) (len := m) (cp := m) (xs := l) (olds := c.toList) ht hin hzv hzs hby (by omega) (by omega) hg hll (run_firstCells_some w.drew i.size m _ m m _ (by rw [hgl, hll]) (fun j u hu => by
        rw [Addr.add_mid]
        show w.cell? _ = _
        rw [cell_of_row w _ _ c e' _ hc]
        simpa using hu)) hrl hrc hrg hcell
      obtain ⟨E', rv, w', h1, h2, h3⟩ := this
      refine ⟨E', rv, w', h1, hfor h2 (fun j q hq => ?_), h3⟩
      by_cases hj : y = j
      · subst hj
        rw [List.getElem?_set_self', hlo] at hq
        simp at hq
      · rwa [List.getElem?_set_ne hj] at hq
  · simp at happ
end

end Go.Proofs.Ytoalafkpkllebaa.Ab
