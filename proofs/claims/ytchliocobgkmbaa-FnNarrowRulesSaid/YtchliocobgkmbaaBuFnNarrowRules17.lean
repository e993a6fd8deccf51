/- Texts for the row of the law FnNarrowRules, part 17: the plain machine, the program's functions on it, what they come to. No conditions. -/
import Derived.Test.YtchliocobgkmbaaBuFnNarrowRules16
import Derived.Test.YtchliocobgkmbaaBuFnNarrowRules10
import Derived.Test.YtchliocobgkmbaaBuFnNarrowRules13
import Derived.Test.YtchliocobgkmbaaBuFnNarrowRules15
import Derived.Test.YtchliocobgkmbaaBuFnNarrowRules11
set_option linter.unusedVariables false
set_option linter.unusedSimpArgs false
namespace Go.Proofs.Ytchliocobgkmbaa.Rp
open Go Go.RowKit Go.Proofs.Ytchliocobgkmbaa.Ab
structure OutD (B : Hp) (b d : Nat) (H : Hp) (s : Sl) (ls : List (List Int)) : Prop where
 cell : H[b]? = some (some ⟨false, [.sl 1 s]⟩)
 bB : B.length ≤ b
 bs : s.blk ≠ b
 bd : b ≠ d
 sd : s.blk ≠ d
 ex : ∃ ss : List Sl, Own 1 B H s (ss.map (.sl 1)) ∧ ss.length = ls.length ∧ ∀ i, (h : i < ss.length) → (h' : i < ls.length) → Own 1 B H ss[i] (ls[i].map (.int .i64)) ∧ ss[i].blk ≠ b ∧ ss[i].blk ≠ s.blk ∧ ss[i].blk < H.length ∧ B.length ≤ ss[i].blk ∧ ss[i].blk ≠ d
theorem OutD.reads {B H : Hp} {b d : Nat} {s : Sl} {ls : List (List Int)} (h : OutD B b d H s ls) : ReadsL B H s ls := by
 obtain ⟨ss, h1, h2, h3⟩ := h.ex
 have : Outs B b H s ls := ⟨h.cell, h.bB, h.bs, ss, h1, h2, fun i hi hi' => by
  obtain ⟨a, b, c, d, e, f⟩ := h3 i hi hi'
  exact ⟨a, b, c, d, e⟩⟩
 exact this.reads
theorem OutD.len {B H : Hp} {b d : Nat} {s : Sl} {ls : List (List Int)} (h : OutD B b d H s ls) : s.len = ls.length := h.reads.len
theorem OutD.pf {B H H' : Hp} {b d : Nat} {s : Sl} {ls : List (List Int)} (h : OutD B b d H s ls) (g : H <+: H') : OutD B b d H' s ls := by
 obtain ⟨ss, h1, h2, h3⟩ := h.ex
 exact ⟨pf_get g h.cell, h.bB, h.bs, h.bd, h.sd, ss, own_pf h1 g, h2, fun i hi hi' => by
  obtain ⟨a, b, c, d, e, f⟩ := h3 i hi hi'
  exact ⟨own_pf a g, b, c, Nat.lt_of_lt_of_le d g.length_le, e, f⟩⟩
theorem OutD.wr {B H H' : Hp} {b d : Nat} {s : Sl} {ls : List (List Int)} (h : OutD B b d H s ls) (g : But d H H') (hl : H'.length = H.length) : OutD B b d H' s ls := by
 obtain ⟨ss, h1, h2, h3⟩ := h.ex
 exact ⟨g _ _ h.bd h.cell, h.bB, h.bs, h.bd, h.sd, ss, g.own h.sd h1, h2, fun i hi hi' => by
  obtain ⟨a, b, c, d, e, f⟩ := h3 i hi hi'
  exact ⟨g.own f a, b, c, by omega, e, f⟩⟩
theorem outD_app {B H : Hp} {b d : Nat} {s : Sl} {ls : List (List Int)} (h : OutD B b d H s ls) (hB : B <+: H) (hl : ls.length ≤ 100000) {t : Sl} {g : List Int} (ht : Own 1 B H t (g.map (.int .i64))) (t1 : t.blk ≠ b) (t2 : t.blk ≠ s.blk) (t3 : t.blk < H.length) (t4 : B.length ≤ t.blk) (t5 : t.blk ≠ d) (hd : d < H.length) :
  ∃ H1 H2, H.app 1 s 1 [.sl 1 t] = some (Sl.mk false H.length 0 (ls.length + 1), H1) ∧ H1.sto b 0 [.sl 1 (Sl.mk false H.length 0 (ls.length + 1))] = some H2 ∧ OutD B b d H2 (Sl.mk false H.length 0 (ls.length + 1)) (ls ++ [g]) ∧ Adv2 b s.blk H H2 ∧ B <+: H2 := by
 obtain ⟨ss, h1, h2, h3⟩ := h.ex
 have hsl := h.len
 obtain ⟨H1, a1, a2, a3, a4, a5⟩ := own_app h1 hB 1 [.sl 1 t] (by omega) (by omega) (by omega) (by omega) rfl
 rw [hsl] at a1 a3
 have hb1 := a4 b _ (Ne.symm h.bs) h.cell
 obtain ⟨H2, c1, c2, c3, c4⟩ := sto1' hb1 (.sl 1 (Sl.mk false H.length 0 (ls.length + 1)))
 have hbl := (List.getElem?_eq_some_iff.1 h.cell).1
 have adv : Adv2 b s.blk H H2 := ⟨fun d x d1 d2 hx => c3 d x d1 (a4 d x d2 hx), by omega⟩
 refine ⟨H1, H2, a1, c1, ⟨c2, h.bB, by simp only; omega, h.bd, by simp only; omega, ss ++ [t], ?_, by simp [h2], fun i hi hi' => ?_⟩, adv, adv.pf h.bB h1.blk hB⟩
 ·have := c3.own (by simp only; omega) a3
  simpa using this
 ·by_cases e : i < ss.length
  ·obtain ⟨q1, q2, q3, q4, q5, q6⟩ := h3 i e (by omega)
   rw [List.getElem_append_left e, List.getElem_append_left (by omega)]
   exact ⟨adv.own q2 q3 q1, q2, by simp only; omega, by omega, q5, q6⟩
  ·have ei : i = ss.length := by simp at hi; omega
   subst ei
   have e1 : (ss ++ [t])[ss.length] = t := by simp
   have e2 : (ls ++ [g])[ss.length] = g := by simp [h2]
   rw [e1, e2]
   exact ⟨adv.own t1 t2 ht, t1, by simp only; omega, by omega, t4, t5⟩
structure TF (B : Hp) (b mb : Nat) (most : Int) (d c : Nat) (st : List (List Int) × Bool) (H : Hp) : Prop where
 ex : ∃ s : Sl, s.blk = c ∧ OutD B b d H s st.1
 m : H[mb]? = some (some ⟨false, [.int .i64 most]⟩)
 m1 : mb ≠ b
 m2 : mb ≠ c
 m3 : mb ≠ d
 hd : d < H.length
 lt : st.2 = true → (st.1.length : Int) < most
def stepF (most : Int) (ls : List (List Int)) (x : List Int) : List (List Int) × Bool := (ls ++ [x], decide (((ls.length + 1 : Nat) : Int) < most))
theorem tell_first {B : Hp} {b d mb : Nat} {most : Int} (hbd : b ≠ d) (hbB : B.length ≤ b) (hm : most ≤ 1000) : Tell B impl_firstSolutions_1.id [.ptr b 0, .ptr mb 0] b d (stepF most) (TF B b mb most d) 10 := by
 refine ⟨by kernel_rfl, rfl, hbB, hbd, ?_, ?_, ?_⟩
 ·rintro c st H H' ⟨⟨s, hc, ho⟩, m, m1, m2, m3, hd, hlt⟩ g
  exact ⟨⟨s, hc, ho.pf g⟩, pf_get g m, m1, m2, m3, Nat.lt_of_lt_of_le hd g.length_le, hlt⟩
 ·rintro c st H H' ⟨⟨s, hc, ho⟩, m, m1, m2, m3, hd, hlt⟩ g hl
  exact ⟨⟨s, hc, ho.wr g hl⟩, g _ _ m3 m, m1, m2, m3, by omega, hlt⟩
 ·rintro k hk c st H t g ⟨⟨s, hc, ho⟩, m, m1, m2, m3, hd, hlt⟩ hB hr h16 htd htn hcd hcB
  subst hc
  have hlt' := hlt rfl
  simp only at hlt' ho
  obtain ⟨k, rfl⟩ := Zs k (by omega)
  have hcell : ldS 1 H b 0 = some s := by unfold ldS Hp.cell; rw [ho.cell]; simp [AV.toS]
  have hbl := (List.getElem?_eq_some_iff.1 ho.cell).1
  have hml := (List.getElem?_eq_some_iff.1 m).1
  have g1 : H <+: H ++ [some (Blk.mk false (g.map (.int .i64)))] := List.prefix_append _ _
  have hnew := own_new 1 H (g.map (.int .i64)) g.length (by simp)
  have hst : stableB H (H ++ [some (Blk.mk false (g.map (.int .i64)))]) b 0 1 = true := by
   have e1 : H.cell b 0 = some (.sl 1 s) := by unfold Hp.cell; rw [ho.cell]; rfl
   have e2 := pf_cell g1 e1
   unfold stableB
   simp [e1, e2, AV.same]
  have hob : s.blk < H.length := by obtain ⟨ss, h1, _⟩ := ho.ex; exact own_lt' h1
  have hcl := Clone_own (show 1 ≤ k by omega) hr htn (by omega)
  obtain ⟨H1, H2, a1, a2, a3, a4, a5⟩ := outD_app (ho.pf g1) (hB.trans g1) (by omega) (own_base hnew hB) (by first | omega | (simp only; omega) | (simp; omega)) (by first | omega | (simp only; omega) | (simp; omega)) (by simp) hB.length_le (by first | omega | (simp only; omega) | (simp; omega)) (by simp; omega)
  have adv : Adv2 b s.blk H H2 := (pf_adv2 g1).trans a4 (.inl rfl)
  have hm2 := adv.but _ _ m1 m2 m
  have hl2 : ldS 1 H2 b 0 = some (Sl.mk false (H ++ [some (Blk.mk false (g.map (.int .i64)))]).length 0 (st.length + 1)) := by unfold ldS Hp.cell; rw [a3.cell]; simp [AV.toS]
  have hm3 : ldI .i64 H2 mb 0 = some most := by unfold ldI Hp.cell; rw [hm2]; simp [AV.toI]
  refine ⟨H2, (H ++ [some (Blk.mk false (g.map (.int .i64)))]).length, ?_, ⟨⟨_, rfl, a3⟩, hm2, m1, (by first | omega | (simp only; omega) | (simp; omega)), m3, by have := adv.le; omega, ?_⟩, adv, .inr (by simp)⟩
  ·show callF PP orc (k + 1) impl_firstSolutions_1.id [.sl 1 t, .ptr b 0, .ptr mb 0] H = some (.bool (decide (((st.length + 1 : Nat) : Int) < most)), H2)
   rw [impl_firstSolutions_1.call]
   simp (disch := omega) only [impl_firstSolutions_1.f, dt, df, bt, bf, nt, nf, Za, Zy, Zx, Zt, Zf, Zn, Zz, Zi, Zo, wr, AV.toB, AV.toI, AV.toS, if_true, hcell, hcl, hst, a1, a2, hl2, hm3]
  ·intro h
   have h' : decide (((st.length + 1 : Nat) : Int) < most) = true := h
   have h2 := of_decide_eq_true h'
   show (((st ++ [g]).length : Nat) : Int) < most
   rw [List.length_append]; exact h2
theorem runL_first (most : Nat) : ∀ (L ls : List (List Int)), ls.length < most → (runL (stepF most) ls L).1 = ls ++ L.take (most - ls.length)
 | [], ls, h => by simp [runL]
 | x :: L, ls, h => by
  rw [runL]
  have e : most - ls.length = (most - (ls.length + 1)) + 1 := by omega
  by_cases c : ((ls.length + 1 : Nat) : Int) < (most : Int)
  ·rw [if_pos (show (stepF most ls x).2 = true from decide_eq_true c)]
   show (runL (stepF most) (ls ++ [x]) L).1 = _
   rw [runL_first most L (ls ++ [x]) (by simp; omega), e]
   simp
  ·rw [if_neg (by show ¬ decide (((ls.length + 1 : Nat) : Int) < (most : Int)) = true; simp; omega)]
   show ls ++ [x] = _
   have : most - ls.length = 1 := by omega
   rw [this]; simp
theorem sto_end {H : Hp} {x : AV} (v : AV) : ∃ H', (H ++ [some (Blk.mk false [x])]).sto H.length 0 [v] = some H' ∧ H <+: H' ∧ H'[H.length]? = some (some ⟨false, [v]⟩) ∧ H'.length = H.length + 1 := by
 obtain ⟨H', a, b, c, d⟩ := sto1' (H := H ++ [some (Blk.mk false [x])]) (b := H.length) (x := x) (by simp) v
 exact ⟨H', a, c.pf (H0 := H) (Nat.le_refl _) (List.prefix_append _ _) (by omega), b, by rw [d]; simp⟩
theorem solutions_gen {B H : Hp} (hB : B <+: H) {n : Int} {gs ss : Sl} {given : List Int} {rs : List R} {b c : Nat} (hzk : ∀ H', Adv2 b c H H' → PuzAt H' n gs ss given rs) (hnil : gs.nil = false) {σ : Type} {step : σ → List Int → σ × Bool} {T : Nat → Nat → σ × Bool → Hp → Prop} {K : Nat} {f : FuncId} {caps : List AV} (hbl : b < H.length) (hcl : c < H.length) (hcB : B.length ≤ c)
  (tell : ∀ d, H.length ≤ d → Tell B f caps b d step (T d) K) (st : σ) (hT : ∀ d H1, H.length ≤ d → d < H1.length → H <+: H1 → T d c (st, true) H1) {k : Nat} (hk : K + 2000400 ≤ k) :
  ∃ H' c' d, callF PP orc k impl_solutions.id [.agg [.int .i64 n, .sl 1 gs, .sl 3 ss], .sl 1 gs, .fn f caps] H = some (.tup [], H') ∧ B <+: H' ∧ Adv2 b c H H' ∧ T d c' (runL step st (allSols n given (rs.map R.val))) H' := by
 obtain ⟨k, rfl⟩ := Zs k (by omega)
 rw [impl_solutions.call]
 have hz := hzk H (pf_adv2 (List.prefix_refl _))
 have hgl := hz.gl
 obtain ⟨Ha, hHa⟩ : ∃ X, H ++ [some (Blk.mk false [.int .i64 n, .sl 1 gs, .sl 3 ss])] = X := ⟨_, rfl⟩
 obtain ⟨Hb, hHb⟩ : ∃ X, Ha ++ [some (Blk.mk false [.fn f caps])] = X := ⟨_, rfl⟩
 have la : Ha.length = H.length + 1 := by rw [← hHa]; simp
 have lb : Hb.length = H.length + 2 := by rw [← hHb]; simp; omega
 have pa : H <+: Ha := by rw [← hHa]; exact List.prefix_append _ _
 have pb : Ha <+: Hb := by rw [← hHb]; exact List.prefix_append _ _
 have ba : Ha[H.length]? = some (some ⟨false, [.int .i64 n, .sl 1 gs, .sl 3 ss]⟩) := by rw [← hHa]; simp
 have bb : Hb[Ha.length]? = some (some ⟨false, [.fn f caps]⟩) := by rw [← hHb]; simp
 have pBb := (hB.trans pa).trans pb
 have c1 := Clone_own (show 1 ≤ k by omega) (pf_reads (pa.trans pb) hz.rg) hnil (by omega)
 obtain ⟨Hc, hHc⟩ : ∃ X, Hb ++ [some (Blk.mk false (given.map (.int .i64)))] = X := ⟨_, rfl⟩
 rw [hHc] at c1
 have lc : Hc.length = H.length + 3 := by rw [← hHc]; simp; omega
 have pc : Hb <+: Hc := by rw [← hHc]; exact List.prefix_append _ _
 have hown : Own 1 Hb Hc (Sl.mk false Hb.length 0 given.length) (given.map (.int .i64)) := by rw [← hHc]; exact own_new 1 Hb _ _ (by simp)
 obtain ⟨Hd, d1, d2, d3, d4⟩ := sto_end (H := Hc) (x := .sl 1 Sl.none) (.sl 1 (Sl.mk false Hb.length 0 given.length))
 have qa := pf_get ((pb.trans pc).trans d2) ba
 have qb := pf_get (pc.trans d2) bb
 have pBd := (pBb.trans pc).trans d2
 have ho := own_pf hown d2
 have r1 : ldI .i64 Hd H.length 0 = some n := by unfold ldI Hp.cell; rw [qa]; simp [AV.toI]
 have r2 : ldS 1 Hd H.length (0 + 1) = some gs := by unfold ldS Hp.cell; rw [qa]; simp [AV.toS]
 have r3 : ldS 3 Hd H.length (0 + 1 + 1) = some ss := by unfold ldS Hp.cell; rw [qa]; simp [AV.toS]
 have r4 := box_sl d3
 obtain ⟨He, e1, e2⟩ := implPuzzleFits_ok (show 2000042 ≤ k by omega) (hz.pf (((pa.trans pb).trans pc).trans d2)) (own_reads ho) hgl
 have pHe : H <+: He := (((pa.trans pb).trans pc).trans d2).trans e2
 have hle := e2.length_le
 unfold allSols
 cases cf : puzzleFitsV n given (rs.map R.val) given with
 | false =>
  rw [cf] at e1
  rw [iN (by simp)]
  refine ⟨He, c, Hb.length, ?_, pBd.trans e2, pf_adv2 pHe, by rw [runL]; exact hT _ _ (by omega) (by omega) pHe⟩
  simp (disch := omega) only [impl_solutions.f, dt, df, bt, bf, nt, nf, Za, Zy, Zx, Zt, Zf, Zn, Zz, Zi, Zo, wr, AV.toB, AV.toI, AV.toS, if_true, hHa, hHb, c1, d1, r1, r2, r3, r4, e1]
 | true =>
  rw [cf] at e1
  rw [ip rfl]
  unfold puzzleFitsV at cf
  simp only [Bool.and_eq_true] at cf
  obtain ⟨q1, q2, q3⟩ := puzzleV_iff cf.1
  have h16 := gridOk_len q1
  have ra := pf_get e2 qa
  have s1 : ldI .i64 He H.length (0 + 0) = some n := by unfold ldI Hp.cell; rw [ra]; simp [AV.toI]
  obtain ⟨Hf, f1, f2, f3, f4⟩ := sto_end (H := He) (x := .int .i64 0) (.int .i64 n)
  obtain ⟨Hg, g1, g2, g3, g4⟩ := sto_end (H := Hf) (x := .nilf) (.fn impl_solutions_1.id [.ptr Hc.length 0, .ptr Ha.length 0, .ptr Hf.length 0, .ptr He.length 0, .ptr H.length 0])
  have s2 := box_fn g3
  have pBg := ((pBd.trans e2).trans f2).trans g2
  have pHg := (pHe.trans f2).trans g2
  have hBH := hB.length_le
  have hog : Own 1 B Hg (Sl.mk false Hb.length 0 given.length) (given.map (.int .i64)) := own_base (own_pf ho ((e2.trans f2).trans g2)) pBb
  have hbx : Bx Hg Hc.length Ha.length Hf.length He.length H.length n (Sl.mk false Hb.length 0 given.length) gs ss f caps :=
   ⟨pf_get ((e2.trans f2).trans g2) d3, pf_get ((e2.trans f2).trans g2) qb, g3, pf_get g2 f3, pf_get (f2.trans g2) ra⟩
  obtain ⟨H', c', g', w1, w2, w3, w4, w5, w6, w7, w8⟩ := Sol_ok (tell Hb.length (by omega)) (gs := Sl.mk false Hb.length 0 given.length) (H0 := H) (c0 := c) hz.n4 hzk (by simp only; omega) q3 q1 (gb := Hc.length) (tb := Ha.length) (yb := Hf.length) (nb := He.length) (pb := H.length) ⟨(by first | omega | (simp only; omega) | (simp; omega)), (by first | omega | (simp only; omega) | (simp; omega)), (by first | omega | (simp only; omega) | (simp; omega)), (by first | omega | (simp only; omega) | (simp; omega)), (by first | omega | (simp only; omega) | (simp; omega))⟩ ⟨(by first | omega | (simp only; omega) | (simp; omega)), (by first | omega | (simp only; omega) | (simp; omega)), (by first | omega | (simp only; omega) | (simp; omega)), (by first | omega | (simp only; omega) | (simp; omega)), (by first | omega | (simp only; omega) | (simp; omega))⟩ given.length k (by omega) Hg given c st (Nat.le_refl _) pBg hbx ⟨(by first | omega | (simp only; omega) | (simp; omega)), (by first | omega | (simp only; omega) | (simp; omega)), (by first | omega | (simp only; omega) | (simp; omega)), (by first | omega | (simp only; omega) | (simp; omega)), (by first | omega | (simp only; omega) | (simp; omega))⟩ (by simp only; omega) hcB hog q1 (Le.refl given) cf.2.2 (hT _ _ (by omega) (by omega) pHg) (pf_adv2 pHg) (.inl rfl)
  rw [Nat.sub_self] at w1
  have w1' : callF PP orc k impl_solutions_1.id ([.int .i64 0] ++ [.ptr Hc.length 0, .ptr Ha.length 0, .ptr Hf.length 0, .ptr He.length 0, .ptr H.length 0]) Hg = _ := w1
  refine ⟨H', c', Hb.length, ?_, w2, ?_, w7⟩
  ·have hcg : ([.int .i64 0] ++ [.ptr Hc.length 0, .ptr Ha.length 0, .ptr Hf.length 0, .ptr He.length 0, .ptr H.length 0] : List AV).all AV.glob = true := rfl
   simp (disch := omega) only [impl_solutions.f, dt, df, bt, bf, nt, nf, Za, Zy, Zx, Zt, Zf, Zn, Zz, Zi, Zo, wr, AV.toB, AV.toI, AV.toS, if_true, hHa, hHb, c1, d1, r1, r2, r3, r4, e1, s1, f1, g1, s2, okSol, hcg, w1']
  ·refine ⟨fun e x h1 h2 hx => ?_, by have := w3.le; have := pHg.length_le; omega⟩
   have hel := (List.getElem?_eq_some_iff.1 hx).1
   exact w3.but e x (by simp only; omega) h1 h2 (pf_get pHg hx)
theorem solutions_ok {B H : Hp} (hB : B <+: H) {n : Int} {gs ss : Sl} {given : List Int} {rs : List R} (hz : PuzAt B n gs ss given rs) (hnil : gs.nil = false) {σ : Type} {step : σ → List Int → σ × Bool} {T : Nat → Nat → σ × Bool → Hp → Prop} {K b c : Nat} {f : FuncId} {caps : List AV} (hbl : b < H.length) (hcl : c < H.length) (hbB : B.length ≤ b) (hcB : B.length ≤ c)
  (tell : ∀ d, H.length ≤ d → Tell B f caps b d step (T d) K) (st : σ) (hT : ∀ d H1, H.length ≤ d → d < H1.length → H <+: H1 → T d c (st, true) H1) {k : Nat} (hk : K + 2000400 ≤ k) :
  ∃ H' c' d, callF PP orc k impl_solutions.id [.agg [.int .i64 n, .sl 1 gs, .sl 3 ss], .sl 1 gs, .fn f caps] H = some (.tup [], H') ∧ B <+: H' ∧ Adv2 b c H H' ∧ T d c' (runL step st (allSols n given (rs.map R.val))) H' :=
 solutions_gen hB (fun H' a => hz.pf (a.pf hbB hcB hB)) hnil hbl hcl hcB tell st hT hk
theorem firstSolutions_ok {k : Nat} (hk : 2000500 ≤ k) {H : Hp} {n : Int} {gs s : Sl} {given : List Int} {rs : List R} (hz : PuzAt H n gs s given rs) (hnil : gs.nil = false) {most : Nat} (h0 : 1 ≤ most) (hmost : most ≤ 1000) :
  ∃ t H', callF PP orc k impl_firstSolutions.id [.agg [.int .i64 n, .sl 1 gs, .sl 3 s], .sl 1 gs, .int .i64 (most : Int)] H = some (.sl 1 t, H') ∧ H <+: H' ∧ ReadsL H H' t ((allSols n given (rs.map R.val)).take most) := by
 obtain ⟨k, rfl⟩ := Zs k (by omega)
 rw [impl_firstSolutions.call]
 obtain ⟨Ha, hHa⟩ : ∃ X, H ++ [some (Blk.mk false [.int .i64 (most : Int)])] = X := ⟨_, rfl⟩
 obtain ⟨Hb, hHb⟩ : ∃ X, Ha ++ [some (Blk.mk false ([] : List AV))] = X := ⟨_, rfl⟩
 have la : Ha.length = H.length + 1 := by rw [← hHa]; simp
 have lb : Hb.length = H.length + 2 := by rw [← hHb]; simp; omega
 have pa : H <+: Ha := by rw [← hHa]; exact List.prefix_append _ _
 have pb : Ha <+: Hb := by rw [← hHb]; exact List.prefix_append _ _
 have ba : Ha[H.length]? = some (some ⟨false, [.int .i64 (most : Int)]⟩) := by rw [← hHa]; simp
 have bb : Hb[Ha.length]? = some (some ⟨false, []⟩) := by rw [← hHb]; simp
 obtain ⟨Hc, c1, c2, c3, c4⟩ := sto_end (H := Hb) (x := .sl 1 Sl.none) (.sl 1 (Sl.mk false Ha.length 0 0))
 have pHc := (pa.trans pb).trans c2
 have ho1 : ∀ d, Hc.length ≤ d → OutD H Hb.length d Hc (Sl.mk false Ha.length 0 0) [] := fun d hd =>
  ⟨c3, by omega, by simp only; omega, by omega, by simp only; omega, [], ⟨rfl, rfl, by simp only; omega, pf_get c2 bb, rfl⟩, rfl, fun i hi => by simp at hi⟩
 obtain ⟨H', c', d, w1, w2, w3, ⟨⟨o, w4, w5⟩, w6, w7, w8, w9, w10, w11⟩⟩ := solutions_ok (B := H) (H := Hc) pHc hz hnil (b := Hb.length) (c := Ha.length) (K := 10) (T := TF H Hb.length H.length most) (step := stepF most) (f := impl_firstSolutions_1.id) (caps := [.ptr Hb.length 0, .ptr H.length 0]) (by omega) (by omega) (by omega) (by omega)
  (fun d hd => tell_first (by omega) (by omega) (by omega)) [] (fun d H1 h1 h2 h3 => ⟨⟨_, rfl, (ho1 d h1).pf h3⟩, pf_get (((pb.trans c2)).trans h3) ba, by omega, by omega, by omega, h2, fun _ => by simp; omega⟩) (show 10 + 2000400 ≤ k by omega)
 rw [runL_first most _ [] (by simp; omega)] at w5
 simp only [List.nil_append, Zm, Nat.sub_zero] at w5
 have hl : ldS 1 H' Hb.length 0 = some o := box_sl w5.cell
 refine ⟨o, H', ?_, w2, w5.reads⟩
 simp (disch := omega) only [impl_firstSolutions.f, dt, df, bt, bf, nt, nf, Za, Zy, Zx, Zt, Zf, Zn, Zz, Zi, Zo, wr, AV.toB, AV.toI, AV.toS, if_true, hHa, hHb, c1, w1, hl]
theorem implSolveFirst_ok {k : Nat} (hk : 2000510 ≤ k) {H : Hp} {n : Int} {gs s : Sl} {given : List Int} {rs : List R} (hz : PuzAt H n gs s given rs) (hnil : gs.nil = false) :
  ∃ t H', H <+: H' ∧ ((firstV n given (rs.map R.val) = none ∧ callF PP orc k impl_SolveFirst.id [.agg [.int .i64 n, .sl 1 gs, .sl 3 s]] H = some (.tup [.sl 1 t, .bool false], H') ∧ Reads .i64 H' t []) ∨
   (∃ x, firstV n given (rs.map R.val) = some x ∧ callF PP orc k impl_SolveFirst.id [.agg [.int .i64 n, .sl 1 gs, .sl 3 s]] H = some (.tup [.sl 1 t, .bool true], H') ∧ Reads .i64 H' t x)) := by
 obtain ⟨k, rfl⟩ := Zs k (by omega)
 rw [impl_SolveFirst.call]
 have h1 := implPuzzleValid_ok (show 2000003 ≤ k by omega) hz.n4 hz.rg hz.gl hz.rr hz.rl hz.rc
 rw [puzzle_map] at h1
 cases c1 : puzzleV n given (rs.map R.val) with
 | false =>
  rw [c1] at h1
  have e : firstV n given (rs.map R.val) = none := by
   unfold firstV allSols puzzleFitsV; rw [c1]; rfl
  exact ⟨Sl.none, H, (List.prefix_refl _), .inl ⟨e, by simp only [impl_SolveFirst.f, dt, df, bt, bf, nt, nf, Za, Zy, Zx, Zt, Zf, Zn, Zz, Zi, Zo, wr, AV.toB, AV.toI, AV.toS, if_true, h1], reads_nil rfl⟩⟩
 | true =>
  rw [c1] at h1
  obtain ⟨t, H1, a1, a2, a3⟩ := firstSolutions_ok (show 2000500 ≤ k by omega) hz hnil (most := 1) (by omega) (by omega)
  have a1' : callF PP orc k impl_firstSolutions.id [.agg [.int .i64 n, .sl 1 gs, .sl 3 s], .sl 1 gs, .int .i64 1] H = some (.sl 1 t, H1) := a1
  have hl := a3.len
  unfold firstV
  generalize allSols n given (rs.map R.val) = L at *
  cases L with
  | nil =>
   simp at hl
   refine ⟨Sl.none, H1, a2, .inl ⟨rfl, ?_, reads_nil rfl⟩⟩
   simp (disch := omega) only [impl_SolveFirst.f, dt, df, bt, bf, nt, nf, Za, Zy, Zx, Zt, Zf, Zn, Zz, Zi, Zo, wr, AV.toB, AV.toI, AV.toS, if_true, h1, a1']
  | cons x L =>
   simp at hl
   obtain ⟨u, b1, b2⟩ := readsL0 a3 (by simp)
   refine ⟨u, H1, a2, .inr ⟨x, rfl, ?_, own_reads b2⟩⟩
   simp (disch := omega) only [impl_SolveFirst.f, dt, df, bt, bf, nt, nf, Za, Zy, Zx, Zt, Zf, Zn, Zz, Zi, Zo, wr, AV.toB, AV.toI, AV.toS, if_true, h1, a1', b1]
structure WN (H0 H : Hp) (s : Sl) (qs : List R) : Prop where
 sh : (qs = [] ∧ s = Sl.none) ∨ Own 3 H0 H s (qs.flatMap R.av)
 rd : ∀ q ∈ qs, Reads .i64 H q.sl q.cells
 cb : ∀ q ∈ qs, q.cells ≠ [] → H0.length ≤ q.sl.blk ∧ q.sl.blk < H.length ∧ q.sl.blk ≠ s.blk
 cn : ∀ q ∈ qs, q.sl.nil = false ∨ q.cells = []
theorem reads_or {H H' : Hp} {s : Sl} {l : List Int} {b : Nat} (h : Reads .i64 H s l) (g : But b H H') (hb : l ≠ [] → s.blk ≠ b) : Reads .i64 H' s l := by
 cases l with
 | nil => exact reads_nil h.len
 | cons x l => exact g.reads (hb (by simp)) h
theorem WN.pf {H0 H H' : Hp} {s : Sl} {qs : List R} (h : WN H0 H s qs) (g : H <+: H') : WN H0 H' s qs :=
 ⟨h.sh.imp id fun ho => own_pf ho g, fun q hq => pf_reads g (h.rd q hq), fun q hq hc => by
  obtain ⟨a, b, c⟩ := h.cb q hq hc
  exact ⟨a, Nat.lt_of_lt_of_le b g.length_le, c⟩, h.cn⟩
theorem WN.reads {H0 H : Hp} {s : Sl} {qs : List R} (h : WN H0 H s qs) : ReadsR H s qs := by
 rcases h.sh with ⟨e1, e2⟩ | ho
 ·subst e1 e2
  exact ⟨rfl, fun i hi => absurd hi (Nat.not_lt_zero _), fun i hi => absurd hi (Nat.not_lt_zero _), fun i hi => absurd hi (Nat.not_lt_zero _), fun i hi => absurd hi (Nat.not_lt_zero _)⟩
 ·exact own_readsR ho fun i hi => h.rd _ (List.getElem_mem hi)
theorem WN.wr {H0 H H' : Hp} {s : Sl} {qs : List R} {b : Nat} (h : WN H0 H s qs) (g : But b H H') (hl : H'.length = H.length) (hb : b < H0.length) : WN H0 H' s qs :=
 ⟨h.sh.imp id fun ho => g.own (by have := ho.blk; omega) ho, fun q hq => reads_or (h.rd q hq) g fun hc => by have := (h.cb q hq hc).1; omega, fun q hq hc => by
  obtain ⟨a, b, c⟩ := h.cb q hq hc
  exact ⟨a, by omega, c⟩, h.cn⟩
def clear (cs : List Int) (g : List Int) : List Int := cs.foldl (fun g c => g.set c.toNat 0) g
theorem first_mem {n : Int} {given : List Int} {vs : List V} {x : List Int} (h : firstV n given vs = some x) : x ∈ allSols n given vs := List.mem_of_mem_head? h
theorem DrawNarrowRules_ok {k : Nat} (hk : 2000602 ≤ k) {H : Hp} {s : Sl} {l : List Int} (hs : Reads .u8 H s l) (hb : ∀ x ∈ l, 0 ≤ x ∧ x ≤ 255) :
  ∃ n gs ss given rs t, ∃ v : List Int, ∃ H', callF PP orc k spec_DrawNarrowRules.id [.sl 1 s] H = some (.tup [.agg [.int .i64 n, .sl 1 gs, .sl 3 ss], .sl 1 t], H') ∧ H <+: H' ∧ PuzB H H' n gs ss given rs ∧ Own 1 H H' t (v.map (.int .i64)) ∧ v.length ≤ 17 ∧ ∀ m ∈ v, -2 ≤ m ∧ m ≤ 63 := by
 obtain ⟨k, rfl⟩ := Zs k (by omega)
 rw [spec_DrawNarrowRules.call]
 obtain ⟨H1, n, gs, ss, given, rs, t, v, l', p', H', a1, a2, a3, a4, a5, a6, a6', a7, a8, a9, a10, a11⟩ := open_work (show 2000601 ≤ k by omega) hs hb
 refine ⟨n, gs, ss, given, rs, t, v, H', ?_, a3, a8.base (by omega), ⟨a9.nn, a9.off, Nat.le_trans (by omega) a9.blk, a9.get, a9.len⟩, a10, a11⟩
 unfold spec_DrawNarrowRules.f
 rw [a1, Option.bind_some]
 simp only [AV.toP, Zo]
 rw [a2, Option.bind_some]
 simp only [AV.isTup, AV.nth, AV.isAgg, AV.cel, AV.toI, AV.toS, AV.toB, Zl, Zm, Zc, Zd, if_true, decide_true, beq_self_eq_true, Zt, Zf, Zy, Zx, Zo]
theorem NarrowRules_j1 {k : Nat} (hk : 2000600 ≤ k) {H : Hp} {n : Int} {gs ss t x : Sl} {given v : List Int} {rs : List R} (hz : PuzAt H n gs ss given rs) (hgn : gs.nil = false) (hp : puzzleV n given (rs.map R.val) = true) (hm : masksOk n v = true) (ht : Reads .i64 H t v) (hx : Reads .i64 H x (rulesV n given (rs.map R.val) v)) :
  ∃ H', laws_FnNarrowRules.j1 (callF PP orc k) k t x n gs ss H = some (.bool true, H') := by
 obtain ⟨g1, g2⟩ := rulesV_good hp hm
 obtain ⟨q1, q2, q3⟩ := dm_of hm
 obtain ⟨r1, r2, r3⟩ := dm_of g1
 have hn := hz.n4
 obtain ⟨u, H1, a1, a2⟩ := implSolveFirst_ok (show 2000510 ≤ k by omega) hz hgn
 have ht1 := pf_reads a1 ht
 have hx1 := pf_reads a1 hx
 have h1 := within_ok (show 2000000 ≤ k by omega) hx1 ht1 (masks_M g1) (masks_M hm) g2 (by omega)
 have hrl := hz.rr.len
 have hsame : (ss.len : Int) > 0 ∨ ((ss.len : Int) ≤ 0 ∧ callF PP orc k laws_sameInts.id [.sl 1 x, .sl 1 t] H1 = some (.bool true, H1)) := by
  by_cases c : 0 < rs.length
  ·left; omega
  ·right
   have e : rs = [] := List.length_eq_zero_iff.1 (by omega)
   have ev : rulesV n given (rs.map R.val) v = v := by
    unfold rulesV
    rw [if_pos ⟨hp, hm⟩, e]; rfl
   refine ⟨by omega, ?_⟩
   rw [ev] at hx1
   exact same_ok (show 2000000 ≤ k by omega) hx1 ht1 (by omega)
 unfold laws_FnNarrowRules.j1
 rcases a2 with ⟨e1, a2, a3⟩ | ⟨g, e1, a2, a3⟩
 ·refine ⟨H1, ?_⟩
  rw [a2, Option.bind_some]
  simp only [AV.isTup, AV.nth, AV.isAgg, AV.cel, AV.toI, AV.toS, AV.toB, Zl, Zm, Zc, Zd, if_true, decide_true, beq_self_eq_true, Zt, Zf, Zy, Zx, Zo]
  rw [h1, Option.bind_some]
  simp only [AV.isTup, AV.nth, AV.isAgg, AV.cel, AV.toI, AV.toS, AV.toB, Zl, Zm, Zc, Zd, if_true, decide_true, beq_self_eq_true, Zt, Zf, Zy, Zx, Zo]
  rcases hsame with h | ⟨h, h'⟩
  ·rw [dt h, cond_true]
  ·rw [df (by omega), cond_false, h', Option.bind_some]
   simp only [AV.isTup, AV.nth, AV.isAgg, AV.cel, AV.toI, AV.toS, AV.toB, Zl, Zm, Zc, Zd, if_true, decide_true, beq_self_eq_true, Zt, Zf, Zy, Zx, Zo]
 ·have hgs := first_mem e1
  have hgo := squares_pos hn (sol_square hp hgs)
  have h2 := implMasksHave_ok (show 2000010 ≤ k by omega) (n := n) (by omega) ht1 a3 (by omega) q3 (by omega)
  have h3 := implMasksHave_ok (show 2000010 ≤ k by omega) (n := n) (by omega) hx1 a3 (by omega) r3 (by omega)
  refine ⟨H1, ?_⟩
  rw [a2, Option.bind_some]
  simp only [AV.isTup, AV.nth, AV.isAgg, AV.cel, AV.toI, AV.toS, AV.toB, Zl, Zm, Zc, Zd, if_true, decide_true, beq_self_eq_true, Zt, Zf, Zy, Zx, Zo]
  rw [h1, Option.bind_some]
  simp only [AV.isTup, AV.nth, AV.isAgg, AV.cel, AV.toI, AV.toS, AV.toB, Zl, Zm, Zc, Zd, if_true, decide_true, beq_self_eq_true, Zt, Zf, Zy, Zx, Zo]
  rw [h2, Option.bind_some]
  cases e2 : haveV n v g with
  | false =>
   simp only [AV.isTup, AV.nth, AV.isAgg, AV.cel, AV.toI, AV.toS, AV.toB, Zl, Zm, Zc, Zd, if_true, decide_true, beq_self_eq_true, Zt, Zf, Zy, Zx, Zo]
   rcases hsame with h | ⟨h, h'⟩
   ·rw [dt h, cond_true]
   ·rw [df (by omega), cond_false, h', Option.bind_some]
    simp only [AV.isTup, AV.nth, AV.isAgg, AV.cel, AV.toI, AV.toS, AV.toB, Zl, Zm, Zc, Zd, if_true, decide_true, beq_self_eq_true, Zt, Zf, Zy, Zx, Zo]
  | true =>
   have e3 : haveV n (rulesV n given (rs.map R.val) v) g = true := haveV_iff.2 ⟨g1, hgo.2.1, rulesV_keeps hp hm hgs (haveV_iff.1 e2).2.2⟩
   rw [e3] at h3
   simp only [AV.isTup, AV.nth, AV.isAgg, AV.cel, AV.toI, AV.toS, AV.toB, Zl, Zm, Zc, Zd, if_true, decide_true, beq_self_eq_true, Zt, Zf, Zy, Zx, Zo]
   rw [h3, Option.bind_some]
   simp only [AV.isTup, AV.nth, AV.isAgg, AV.cel, AV.toI, AV.toS, AV.toB, Zl, Zm, Zc, Zd, if_true, decide_true, beq_self_eq_true, Zt, Zf, Zy, Zx, Zo]
   rcases hsame with h | ⟨h, h'⟩
   ·rw [dt h, cond_true]
   ·rw [df (by omega), cond_false, h', Option.bind_some]
    simp only [AV.isTup, AV.nth, AV.isAgg, AV.cel, AV.toI, AV.toS, AV.toB, Zl, Zm, Zc, Zd, if_true, decide_true, beq_self_eq_true, Zt, Zf, Zy, Zx, Zo]
theorem NarrowRules_law {k : Nat} (hk : 2000800 ≤ k) {H : Hp} {s : Sl} {l : List Int} (hs : Reads .u8 H s l) (hb : ∀ x ∈ l, 0 ≤ x ∧ x ≤ 255) :
  ∃ H', callF PP orc k laws_FnNarrowRules.id [.sl 1 s] H = some (.bool true, H') := by
 obtain ⟨k, rfl⟩ := Zs k (by omega)
 rw [laws_FnNarrowRules.call]
 by_cases hbig : (s.len : Int) > 1048576
 ·exact ⟨H, by simp only [laws_FnNarrowRules.f, dt hbig, Zt]⟩
 ·obtain ⟨n, gs, ss, given, rs, t, v, H1, a1, a2, a3, a4, a5, a6⟩ := DrawNarrowRules_ok (show 2000602 ≤ k by omega) hs hb
  have hz := a3.at'
  have hn := hz.n4
  have ht := own_reads a4
  obtain ⟨x, H2, b1, b2, b3⟩ := implNarrowRules_ok (show 2000050 ≤ k by omega) hz ht a4.nn (by omega) a6
  obtain ⟨y, H3, c1, c2, c3⟩ := specNarrowRules_ok (show 2000050 ≤ k by omega) (hz.pf b2) (pf_reads b2 ht) (by omega)
  have hx3 := pf_reads c2 b3.reads
  have hxl : (rulesV n given (rs.map R.val) v).length ≤ 1000 := by
   by_cases c : puzzleV n given (rs.map R.val) = true ∧ masksOk n v = true
   ·have := (dm_of (rulesV_good c.1 c.2).1).1; omega
   ·unfold rulesV; rw [if_neg c]; simp
  have sm := same_ok (show 2000000 ≤ k by omega) hx3 (own_reads c3) hxl
  have hz3 := hz.pf (b2.trans c2)
  have ht3 := pf_reads (b2.trans c2) ht
  have h1 := specPuzzleValid_ok (show 2000003 ≤ k by omega) hz3.n4 hz3.rg hz3.gl hz3.rr hz3.rl hz3.rc
  rw [puzzle_map] at h1
  have h2 := specMasksValid_any (show 2000000 ≤ k by omega) (n := n) (by omega) ht3 (by omega)
  have hxn := b3.reads.len
  unfold laws_FnNarrowRules.f
  rw [df hbig, cond_false, a1, Option.bind_some]
  simp only [AV.isTup, AV.nth, AV.isAgg, AV.cel, AV.toI, AV.toS, AV.toB, Zl, Zm, Zc, Zd, if_true, decide_true, beq_self_eq_true, Zt, Zf, Zy, Zx, Zo]
  rw [b1, Option.bind_some]
  simp only [AV.isTup, AV.nth, AV.isAgg, AV.cel, AV.toI, AV.toS, AV.toB, Zl, Zm, Zc, Zd, if_true, decide_true, beq_self_eq_true, Zt, Zf, Zy, Zx, Zo]
  rw [c1, Option.bind_some]
  simp only [AV.isTup, AV.nth, AV.isAgg, AV.cel, AV.toI, AV.toS, AV.toB, Zl, Zm, Zc, Zd, if_true, decide_true, beq_self_eq_true, Zt, Zf, Zy, Zx, Zo]
  rw [sm, Option.bind_some]
  simp only [AV.isTup, AV.nth, AV.isAgg, AV.cel, AV.toI, AV.toS, AV.toB, Zl, Zm, Zc, Zd, if_true, decide_true, beq_self_eq_true, Zt, Zf, Zy, Zx, Zo]
  rw [h1, Option.bind_some]
  cases e1 : puzzleV n given (rs.map R.val) with
  | false =>
   obtain ⟨H4, d1, d2⟩ := alive_ok (show 2000002 ≤ k by omega) H3
   have hz0 : (x.len : Int) = 0 := by
    rw [hxn]; unfold rulesV; rw [if_neg (by rw [e1]; simp)]; rfl
   refine ⟨H4, ?_⟩
   simp only [AV.isTup, AV.nth, AV.isAgg, AV.cel, AV.toI, AV.toS, AV.toB, Zl, Zm, Zc, Zd, if_true, decide_true, beq_self_eq_true, Zt, Zf, Zy, Zx, Zo]
   unfold laws_FnNarrowRules.j0
   rw [cond_true, bt hz0, cond_true, d1, Option.bind_some]
   simp only [AV.isTup, AV.nth, AV.isAgg, AV.cel, AV.toI, AV.toS, AV.toB, Zl, Zm, Zc, Zd, if_true, decide_true, beq_self_eq_true, Zt, Zf, Zy, Zx, Zo]
  | true =>
   simp only [AV.isTup, AV.nth, AV.isAgg, AV.cel, AV.toI, AV.toS, AV.toB, Zl, Zm, Zc, Zd, if_true, decide_true, beq_self_eq_true, Zt, Zf, Zy, Zx, Zo]
   rw [h2, Option.bind_some]
   cases e2 : masksOk n v with
   | false =>
    obtain ⟨H4, d1, d2⟩ := alive_ok (show 2000002 ≤ k by omega) H3
    have hz0 : (x.len : Int) = 0 := by
     rw [hxn]; unfold rulesV; rw [if_neg (by rw [e2]; simp)]; rfl
    refine ⟨H4, ?_⟩
    simp only [AV.isTup, AV.nth, AV.isAgg, AV.cel, AV.toI, AV.toS, AV.toB, Zl, Zm, Zc, Zd, if_true, decide_true, beq_self_eq_true, Zt, Zf, Zy, Zx, Zo]
    unfold laws_FnNarrowRules.j0
    rw [cond_true, bt hz0, cond_true, d1, Option.bind_some]
    simp only [AV.isTup, AV.nth, AV.isAgg, AV.cel, AV.toI, AV.toS, AV.toB, Zl, Zm, Zc, Zd, if_true, decide_true, beq_self_eq_true, Zt, Zf, Zy, Zx, Zo]
   | true =>
    obtain ⟨H4, d1⟩ := NarrowRules_j1 (show 2000600 ≤ k by omega) hz3 a3.gn e1 e2 ht3 hx3
    refine ⟨H4, ?_⟩
    simp only [AV.isTup, AV.nth, AV.isAgg, AV.cel, AV.toI, AV.toS, AV.toB, Zl, Zm, Zc, Zd, if_true, decide_true, beq_self_eq_true, Zt, Zf, Zy, Zx, Zo]
    unfold laws_FnNarrowRules.j0
    rw [cond_false]
    exact d1
end Go.Proofs.Ytchliocobgkmbaa.Rp
