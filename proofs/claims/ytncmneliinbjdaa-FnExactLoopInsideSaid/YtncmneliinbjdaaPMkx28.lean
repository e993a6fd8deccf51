/- Functions of the program, and what a call comes to. No conditions. -/
import Derived.Test.YtncmneliinbjdaaPMkx0
import Derived.Test.YtncmneliinbjdaaPMkx16
import Derived.Test.YtncmneliinbjdaaPMkx27
import Derived.Maps.OwnOps
import Derived.Maps.OwnSet
import Derived.Maps.Views
import Derived.Maps.RangeWalk
import Derived.WalkSpells
import Derived.WalkLawsBesides
import Derived.Outline
namespace Go.Proofs.Ytncmneliinbjdaa.PMk
open Go.RowKit Go.Proofs.YtncmneliinbjdaaW.PrintWords Go.Proofs.YtncmneliinbjdaaW.PrintLast Go.Proofs.YtncmneliinbjdaaW.PrintMore
set_option linter.unusedVariables false
set_option linter.unusedSimpArgs false

/-! ### impl_LoopClosed: function 50 -/
/-- Where a point leads to: a list of (point, the point that it leads to), the youngest first. -/
def impl_LoopClosed.fr : List (Int × Int) → Int → Int
  | [], p => p
  | (x, y) :: t, p => if impl_LoopClosed.fr t p = x then y else impl_LoopClosed.fr t p
def impl_LoopClosed.un (g : List (Int × Int)) (a b : Int) : List (Int × Int) := if impl_LoopClosed.fr g a = impl_LoopClosed.fr g b then g else (impl_LoopClosed.fr g a, impl_LoopClosed.fr g b) :: g
def impl_LoopClosed.gs : List (Int × Int) → List (Int × Int) → List (Int × Int)
  | g, [] => g
  | g, e :: t => impl_LoopClosed.gs (impl_LoopClosed.un g e.1 e.2) t
def impl_LoopClosed.cn : List (Int × Int) → Int → Nat
  | [], _ => 0
  | e :: t, p => (if e.1 = p then 1 else 0) + (if e.2 = p then 1 else 0) + impl_LoopClosed.cn t p
def impl_LoopClosed.Wf (es : List (Int × Int)) : Prop := ∀ e ∈ es, (Lit.int .i64 e.1).wf = true ∧ (Lit.int .i64 e.2).wf = true
instance (es : List (Int × Int)) : Decidable (impl_LoopClosed.Wf es) := by unfold impl_LoopClosed.Wf; infer_instance
def impl_LoopClosed.Good (es : List (Int × Int)) (q : Int) : Prop := ∀ p, impl_LoopClosed.cn es p ≠ 0 → impl_LoopClosed.cn es p = 2 ∧ impl_LoopClosed.fr (impl_LoopClosed.gs [] es) p = impl_LoopClosed.fr (impl_LoopClosed.gs [] es) q
def impl_LoopClosed.cl (es : List (Int × Int)) : Bool := match es with
  | [] => false
  | e0 :: t => (e0 :: t).all fun e => (impl_LoopClosed.cn (e0 :: t) e.1 == 2 && impl_LoopClosed.fr (impl_LoopClosed.gs [] (e0 :: t)) e.1 == impl_LoopClosed.fr (impl_LoopClosed.gs [] (e0 :: t)) e0.1) && (impl_LoopClosed.cn (e0 :: t) e.2 == 2 && impl_LoopClosed.fr (impl_LoopClosed.gs [] (e0 :: t)) e.2 == impl_LoopClosed.fr (impl_LoopClosed.gs [] (e0 :: t)) e0.1)
def impl_LoopClosed.pr (e : S67) : Int × Int := (e.f0, e.f1)
def impl_LoopClosed.f (k : Nat) (a0_0 : Int) (a0_1 : Int) (l0_2 : List (List Bool)) (l0_3 : List (List Bool)) : Option Bool := (impl_LoopValid.f k a0_0 a0_1 l0_2 l0_3).bind fun t => (if t = true then ((impl_edgesOf.f k a0_0 a0_1 l0_2 l0_3).bind fun es => (if es.length < 1000000000000000 then (if impl_LoopClosed.Wf (es.map impl_LoopClosed.pr) then (some (impl_LoopClosed.cl (es.map impl_LoopClosed.pr))) else (none)) else (none))) else (some false))
theorem impl_LoopClosed.mono : ∀ a0 a1 a2 a3 k, LeO (impl_LoopClosed.f k a0 a1 a2 a3) (impl_LoopClosed.f (k + 1) a0 a1 a2 a3) := by
  intro a0 a1 a2 a3 k
  unfold impl_LoopClosed.f
  exact LeO.bind (impl_LoopValid.mono _ _ _ _ _) (fun _ => LeO.ite (LeO.bind (impl_edgesOf.mono _ _ _ _ _) (fun _ => LeO.refl _)) (LeO.refl _))
namespace impl_LoopClosed
/-- Each point leads on at most once, and only to points that lead on later or never. -/
def Ok : List (Int × Int) → Prop
  | [] => True
  | (x, y) :: t => Ok t ∧ x ∉ t.map (·.1) ∧ y ∉ t.map (·.1) ∧ x ≠ y
def lk : List (Int × Int) → Int → Option Int
  | [], _ => none
  | (x, y) :: t, p => if p = x then some y else lk t p
/-- How often it leads on. -/
def st : List (Int × Int) → Int → Nat
  | [], _ => 0
  | (x, _) :: t, p => st t p + (if fr t p = x then 1 else 0)
theorem lk_none : ∀ {g : List (Int × Int)} {p : Int}, lk g p = none ↔ p ∉ g.map (·.1)
  | [], p => by simp [lk]
  | (x, y) :: t, p => by
    unfold lk
    by_cases h : p = x
    · simp [h]
    · simp [h, lk_none (g := t) (p := p)]
theorem fr_root : ∀ {g : List (Int × Int)} {p : Int}, lk g p = none → fr g p = p ∧ st g p = 0
  | [], _, _ => ⟨rfl, rfl⟩
  | (x, y) :: t, p, h => by
    unfold lk at h
    by_cases e : p = x
    · rw [if_pos e] at h; cases h
    · rw [if_neg e] at h
      obtain ⟨h1, h2⟩ := fr_root h
      unfold fr st
      rw [h1, if_neg e, h2, if_neg e]; exact ⟨rfl, rfl⟩
theorem fr_step : ∀ {g : List (Int × Int)} {p q : Int}, Ok g → lk g p = some q → fr g p = fr g q ∧ st g p = st g q + 1
  | [], _, _, _, h => by cases h
  | (x, y) :: t, p, q, ⟨hk, hx, hy, hne⟩, h => by
    unfold lk at h
    by_cases e : p = x
    · rw [if_pos e] at h
      obtain rfl := Option.some.inj h
      obtain ⟨a1, a2⟩ := fr_root (lk_none.2 hx)
      obtain ⟨b1, b2⟩ := fr_root (lk_none.2 hy)
      unfold fr st
      rw [e, a1, b1, a2, b2, if_pos rfl, if_pos rfl, if_neg (fun e => hne e.symm), if_neg (fun e => hne e.symm)]
      exact ⟨rfl, rfl⟩
    · rw [if_neg e] at h
      obtain ⟨h1, h2⟩ := fr_step hk h
      unfold fr st
      rw [h1, h2]
      exact ⟨rfl, by omega⟩
theorem fr_out : ∀ {g : List (Int × Int)} (p : Int), Ok g → lk g (fr g p) = none
  | [], _, _ => rfl
  | (x, y) :: t, p, ⟨hk, hx, hy, hne⟩ => by
    have ih := fr_out (g := t) p hk
    unfold fr
    by_cases e : fr t p = x
    · rw [if_pos e]
      unfold lk
      rw [if_neg (fun e => hne e.symm)]; exact lk_none.2 hy
    · rw [if_neg e]
      unfold lk
      rw [if_neg e]; exact ih
theorem un_ok {g : List (Int × Int)} (h : Ok g) (a b : Int) : Ok (un g a b) := by
  unfold un
  by_cases e : fr g a = fr g b
  · rw [if_pos e]; exact h
  · rw [if_neg e]; exact ⟨h, lk_none.1 (fr_out a h), lk_none.1 (fr_out b h), e⟩
theorem fr_wf : ∀ {g : List (Int × Int)} {p : Int}, Wf g → (Lit.int .i64 p).wf = true → (Lit.int .i64 (fr g p)).wf = true
  | [], _, _, h => h
  | (x, y) :: t, p, hg, h => by
    unfold fr
    split
    · exact (hg _ (List.mem_cons_self ..)).2
    · exact fr_wf (g := t) (fun e he => hg e (List.mem_cons_of_mem _ he)) h
theorem un_wf {g : List (Int × Int)} (h : Wf g) {a b : Int} (ha : (Lit.int .i64 a).wf = true) (hb : (Lit.int .i64 b).wf = true) : Wf (un g a b) := by
  unfold un
  split
  · exact h
  · intro e he
    rcases List.mem_cons.1 he with rfl | he
    · exact ⟨fr_wf h ha, fr_wf h hb⟩
    · exact h e he
theorem un_len (g : List (Int × Int)) (a b : Int) : (un g a b).length ≤ g.length + 1 := by
  unfold un; split <;> simp
theorem cn_le : ∀ (es : List (Int × Int)) (p : Int), cn es p ≤ 2 * es.length
  | [], _ => Nat.le_refl _
  | e :: t, p => by have := cn_le t p; unfold cn; simp only [List.length_cons]; split <;> split <;> omega
theorem cn_snoc : ∀ (es : List (Int × Int)) (e : Int × Int) (p : Int), cn (es ++ [e]) p = cn es p + (if e.1 = p then 1 else 0) + (if e.2 = p then 1 else 0)
  | [], e, p => by simp [cn]
  | d :: t, e, p => by rw [List.cons_append, cn, cn, cn_snoc t e p]; omega
theorem gs_snoc : ∀ (es : List (Int × Int)) (g : List (Int × Int)) (e : Int × Int), gs g (es ++ [e]) = un (gs g es) e.1 e.2
  | [], g, e => rfl
  | d :: t, g, e => by rw [List.cons_append, gs, gs, gs_snoc t]
theorem cn_pos : ∀ (es : List (Int × Int)) (p : Int), cn es p ≠ 0 ↔ ∃ e ∈ es, e.1 = p ∨ e.2 = p
  | [], p => by simp [cn]
  | d :: t, p => by
    have ih := cn_pos t p
    unfold cn
    constructor
    · intro h
      by_cases h1 : d.1 = p
      · exact ⟨d, List.mem_cons_self .., .inl h1⟩
      · by_cases h2 : d.2 = p
        · exact ⟨d, List.mem_cons_self .., .inr h2⟩
        · rw [if_neg h1, if_neg h2] at h
          obtain ⟨e, he, h3⟩ := ih.1 (by omega)
          exact ⟨e, List.mem_cons_of_mem _ he, h3⟩
    · rintro ⟨e, he, h3⟩
      rcases List.mem_cons.1 he with rfl | he
      · rcases h3 with h3 | h3 <;> rw [if_pos h3] <;> omega
      · have := ih.2 ⟨e, he, h3⟩; omega
theorem cl_good {e0 : Int × Int} {t : List (Int × Int)} : cl (e0 :: t) = true ↔ Good (e0 :: t) e0.1 := by
  unfold cl Good
  rw [List.all_eq_true]
  constructor
  · intro h p hp
    obtain ⟨e, he, h3⟩ := (cn_pos _ _).1 hp
    have := h e he
    simp only [Bool.and_eq_true, beq_iff_eq] at this
    rcases h3 with rfl | rfl
    · exact this.1
    · exact this.2
  · intro h e he
    simp only [Bool.and_eq_true, beq_iff_eq]
    exact ⟨h e.1 ((cn_pos _ _).2 ⟨e, he, .inl rfl⟩), h e.2 ((cn_pos _ _).2 ⟨e, he, .inr rfl⟩)⟩
/-! A map of the call's own, of whole numbers, as a function. -/
theorem law : Maps.Keyed Try.prog 3 := Maps.int_keyed Try.underlying3
theorem zeroE (w : World) : (zeroValue 3).run Try.prog w = .ok (.int .i64 0) w := by kernel_rfl
def at_ (D : DataW Unit) (m : Int → Option Int) : Prop := Maps.IsMap D ∧ ∀ p, (Lit.int .i64 p).wf = true → Maps.has D (.int .i64 p) = (m p).isSome ∧ ∀ c, m p = some c → ∀ z, D.atKey (.int .i64 p) z = .lit (.int .i64 c)
def Mp (W : World) (b n : Nat) (m : Int → Option Int) : Prop := ∃ D : DataW Unit, W.ownsMap Try.prog 3 (plainElem Try.prog 3) b n D ∧ at_ D m
theorem at_none : at_ (.map []) (fun _ => none) := ⟨Maps.isMap_empty, fun p _ => ⟨rfl, fun c h => by cases h⟩⟩
theorem at_put {D : DataW Unit} {m : Int → Option Int} (h : at_ D m) {p v : Int} (hp : (Lit.int .i64 p).wf = true) : at_ (D.put (.int .i64 p) (.lit (.int .i64 v))) (fun q => if q = p then some v else m q) := by
  have hk : WideAt.IsKeyLit (.int .i64 p) := by simp [WideAt.IsKeyLit]
  refine ⟨h.1.put _ _, fun q hq => ?_⟩
  by_cases e : q = p
  · subst e
    refine ⟨by rw [Maps.has_put_same h.1 hk]; simp, fun c hc z => ?_⟩
    have hc' : some v = some c := (if_pos rfl).symm.trans hc
    rw [Maps.atKey_put_same h.1 hk, Option.some.inj hc']
  · have hne : (Lit.int .i64 q) ≠ .int .i64 p := fun e' => e (by injection e')
    have e1 : (if q = p then some v else m q) = m q := if_neg e
    refine ⟨by rw [Maps.has_put_other hne, (h.2 q hq).1]; exact congrArg Option.isSome e1.symm, fun c hc z => ?_⟩
    rw [Maps.atKey_put_other hne]
    exact (h.2 q hq).2 c (e1.symm.trans hc) z
theorem at_get {D : DataW Unit} {m : Int → Option Int} (h : at_ D m) {p c : Int} (hp : (Lit.int .i64 p).wf = true) (hat : D.atKey (.int .i64 p) (.lit (.int .i64 0)) = .lit (.int .i64 c)) : c = (m p).getD 0 := by
  obtain ⟨h1, h2⟩ := h.2 p hp
  cases hm : m p with
  | none =>
    rw [hm] at h1
    rw [Maps.atKey_of_not_has h1] at hat
    injection hat with e; injection e with _ e; exact e.symm
  | some x =>
    rw [h2 x hm] at hat
    injection hat with e; injection e with _ e; exact e.symm
theorem at_some {D : DataW Unit} {m : Int → Option Int} (h : at_ D m) {p c : Int} (hp : (Lit.int .i64 p).wf = true) (hat : ∀ zd, D.atKey (.int .i64 p) zd = .lit (.int .i64 c)) : m p = some c := by
  obtain ⟨h1, h2⟩ := h.2 p hp
  cases hm : m p with
  | none =>
    rw [hm] at h1
    have a := hat (.lit (.int .i64 (c + 1)))
    rw [Maps.atKey_of_not_has h1] at a
    injection a with e; injection e with _ e; omega
  | some x =>
    have a := hat (.lit (.int .i64 0))
    rw [h2 x hm] at a
    injection a with e; injection e with _ e; rw [e]
theorem Mp.kept {W W' : World} {b n : Nat} {m : Int → Option Int} (h : Mp W b n m) {row : Option Nat} (hg : W.grownBy W' row) (hne : some b ≠ row) : Mp W' b n m := by
  obtain ⟨D, h1, h2⟩ := h
  exact ⟨D, h1.kept hg hne, h2⟩
def mm (pre : List (Int × Int)) : Int → Option Int := fun p => if cn pre p = 0 then none else some (cn pre p : Int)
def up (m : Int → Option Int) (p v : Int) : Int → Option Int := fun q => if q = p then some v else m q
theorem mm_get (pre : List (Int × Int)) (p : Int) : (mm pre p).getD 0 = (cn pre p : Int) := by
  unfold mm
  by_cases h : cn pre p = 0
  · rw [if_pos h, h]; rfl
  · rw [if_neg h]; rfl
theorem mm_step (pre : List (Int × Int)) (a b c1 c2 : Int) (hl : pre.length < 1000000000000000) (h1 : c1 = (mm pre a).getD 0) (h2 : c2 = (up (mm pre) a (wrap64 (c1 + 1)) b).getD 0) :
    (Lit.int .i64 (wrap64 (c1 + 1))).wf = true ∧ (Lit.int .i64 (wrap64 (c2 + 1))).wf = true ∧ up (up (mm pre) a (wrap64 (c1 + 1))) b (wrap64 (c2 + 1)) = mm (pre ++ [(a, b)]) := by
  have la := cn_le pre a
  have lb := cn_le pre b
  rw [mm_get] at h1
  have e1 : wrap64 (c1 + 1) = (cn pre a : Int) + 1 := by unfold wrap64; omega
  have w1 : (Lit.int .i64 (wrap64 (c1 + 1))).wf = true := by rw [e1]; exact WalkArith.wf_i64 (by omega)
  rw [e1] at h2 ⊢
  rw [e1] at w1
  have e2 : wrap64 (c2 + 1) = (cn pre b : Int) + 1 + (if b = a then 1 else 0) := by
    unfold up at h2
    by_cases hba : b = a
    · rw [if_pos hba] at h2
      rw [if_pos hba, hba]
      have : c2 = (cn pre a : Int) + 1 := h2
      unfold wrap64; omega
    · rw [if_neg hba, mm_get] at h2
      rw [if_neg hba]
      unfold wrap64; omega
  rw [e2]
  refine ⟨w1, WalkArith.wf_i64 (by split <;> omega), ?_⟩
  funext p
  unfold up mm
  rw [cn_snoc]
  simp only
  have key : ∀ (x y : Nat) (u v : Int), x = y → u = v → (if x = 0 then (none : Option Int) else some u) = if y = 0 then none else some v := by
    intro x y u v h1 h2; rw [h1, h2]
  by_cases hb : p = b
  · have hb' : b = p := hb.symm
    rw [if_pos hb]
    by_cases ha : a = p
    · have e3 : (if b = a then (1 : Int) else 0) = 1 := if_pos (hb'.trans ha.symm)
      have e4 : (cn pre p + (if a = p then 1 else 0) + (if b = p then 1 else 0)) = cn pre p + 2 := by rw [if_pos ha, if_pos hb']
      rw [e3, e4, if_neg (by omega), hb']; (congr 1 <;> first | rfl | (push_cast; omega))
    · have e3 : (if b = a then (1 : Int) else 0) = 0 := if_neg (fun e => ha (e.symm.trans hb'))
      have e4 : (cn pre p + (if a = p then 1 else 0) + (if b = p then 1 else 0)) = cn pre p + 1 := by rw [if_neg ha, if_pos hb']
      rw [e3, e4, if_neg (by omega), hb']; (congr 1 <;> first | rfl | (push_cast; omega))
  · have hb' : ¬ b = p := fun e => hb e.symm
    rw [if_neg hb]
    by_cases ha : a = p
    · have e4 : (cn pre p + (if a = p then 1 else 0) + (if b = p then 1 else 0)) = cn pre p + 1 := by rw [if_pos ha, if_neg hb']
      rw [if_pos ha.symm, e4, if_neg (by omega), ha]; congr 1
    · have e4 : (cn pre p + (if a = p then 1 else 0) + (if b = p then 1 else 0)) = cn pre p := by rw [if_neg ha, if_neg hb']; rfl
      rw [if_neg (fun e => ha e.symm), e4]
theorem mm_some {pre : List (Int × Int)} {p c : Int} (h : mm pre p = some c) : cn pre p ≠ 0 ∧ c = (cn pre p : Int) := by
  unfold mm at h
  by_cases e : cn pre p = 0
  · rw [if_pos e] at h; cases h
  · rw [if_neg e] at h; exact ⟨e, (Option.some.inj h).symm⟩
/-- What is asked of a point. -/
def gd (q0 : List (Int × Int)) (p : Int) : Prop := cn q0 p = 2 ∧ fr (gs [] q0) p = fr (gs [] q0) (q0.headD (0, 0)).1
theorem cl_of_bad {q0 : List (Int × Int)} {p : Int} (h : cn q0 p ≠ 0) (hb : ¬ gd q0 p) : cl q0 = false := by
  cases q0 with
  | nil => rfl
  | cons e0 t =>
    cases hc : cl (e0 :: t) with
    | false => rfl
    | true => exact absurd (cl_good.1 hc p h) hb
theorem cl_of_all {q0 : List (Int × Int)} (h : ∀ p, cn q0 p ≠ 0 → gd q0 p) : cl q0 = decide (0 < q0.length) := by
  cases q0 with
  | nil => rfl
  | cons e0 t => rw [cl_good.2 h]; simp
theorem cn_wf {q0 : List (Int × Int)} (hw : Wf q0) {p : Int} (h : cn q0 p ≠ 0) : (Lit.int .i64 p).wf = true := by
  obtain ⟨e, he, h3⟩ := (cn_pos _ _).1 h
  rcases h3 with rfl | rfl
  · exact (hw e he).1
  · exact (hw e he).2
theorem gs_ok : ∀ (es g : List (Int × Int)), Ok g → Ok (gs g es)
  | [], _, h => h
  | e :: t, g, h => gs_ok t _ (un_ok h _ _)
theorem gs_wf : ∀ (es g : List (Int × Int)), Wf es → Wf g → Wf (gs g es)
  | [], _, _, h => h
  | e :: t, g, he, h => gs_wf t _ (fun d hd => he d (List.mem_cons_of_mem _ hd)) (un_wf h (he _ (List.mem_cons_self ..)).1 (he _ (List.mem_cons_self ..)).2)
theorem Mp.drewN {W : World} {b n : Nat} {m : Int → Option Int} (h : Mp W b n m) (k : Nat) : Mp (W.drewN k) b n m := h
theorem lk_un {g : List (Int × Int)} {a b : Int} (h : fr g a ≠ fr g b) : lk (un g a b) = up (lk g) (fr g a) (fr g b) := by
  funext p
  unfold un
  rw [if_neg h]; rfl
end impl_LoopClosed
open impl_LoopClosed in
set_option maxHeartbeats 4000000 in
theorem impl_LoopClosed_find (g : List (Int × Int)) (n : Nat) (p : Int) (gb b : Nat) (W : World) (hM : Mp W b n (lk g)) (hok : Ok g) (hwf : Wf g) (hp : (Lit.int .i64 p).wf = true) (hc : W.cell? ⟨gb, 0, none⟩ = some (.map (some b))) :
    Calls Try.prog 66 #[.int .i64 p, .pointer (some ⟨gb, 0, none⟩)] W fun e w' => e = .returned (.int .i64 (fr g p)) ∧ W = w' := by
  obtain ⟨D, hown, hat⟩ := hM
  have HA := asd hat
  have HO := asd hown
  have HOK := asd hok
  have HWF := asd hwf
  have HP := asd hp
  clear hat hown hok hwf hp
  go_enter Try.func66, Try.ntmps66
  go_wp2
  go_loopg [0] (st g p + 1) (fun kq v0 W' => ∃ q : Int, v0 = .int .i64 q ∧ Aside0 (fr g q = fr g p) ∧ Aside0 (st g q + 1 ≤ kq) ∧ Aside0 ((Lit.int .i64 q).wf = true) ∧ W = W')
  case atStart => exact ⟨p, rfl, ⟨rfl⟩, ⟨Nat.le_refl _⟩, HP, rfl⟩
  case round =>
    obtain ⟨q, rfl, HF, HK, HQ, rfl⟩ := hrel
    cases gk with
    | zero => exact absurd HK.out (by omega)
    | succ k1 =>
      cases hl : lk g q with
      | none =>
        have hh : Maps.has D (.int .i64 q) = false := by rw [(HA.out.2 q HQ.out).1, hl]; rfl
        have HR := asd (fr_root hl).1
        clear hl
        go_wp2_with (first | (at_lookup; refine wpList_lookup_own_ok_int _ rfl _ _ 72 rfl 3 3 .i64 law Try.underlying72 Try.underlying3 (zeroE _) b n D rfl HO.out _ _ rfl (Maps.keyOf_int_mk Try.underlying3 HQ.out) ?_; intro c hat hwc; clear hat hwc))
        go_ret
        exact ⟨show Ending.returned (.int .i64 q) = _ by rw [← HF.out, HR.out], rfl⟩
      | some q' =>
        have hh : Maps.has D (.int .i64 q) = true := by rw [(HA.out.2 q HQ.out).1, hl]; rfl
        have HS := asd (fr_step HOK.out hl)
        have HL := asd hl
        clear hl
        go_wp2_with (first | (at_lookup; refine wpList_lookup_own_ok_int _ rfl _ _ 72 rfl 3 3 .i64 law Try.underlying72 Try.underlying3 (zeroE _) b n D rfl HO.out _ _ rfl (Maps.keyOf_int_mk Try.underlying3 HQ.out) ?_; intro c hat hwc; have HC := asd (at_get HA.out HQ.out hat); have HW := asd hwc; clear hat hwc))
        have e : c = q' := by rw [HC.out, HL.out]; rfl
        subst e
        go_roundg k1
        case measure => omega
        case rel => exact ⟨c, rfl, ⟨by rw [← HF.out, HS.out.1]⟩, ⟨by have := HK.out; have := HS.out.2; omega⟩, HW, rfl⟩
open impl_LoopClosed in
theorem impl_LoopClosed_quiet (g : List (Int × Int)) (n : Nat) (p : Int) (gb b m : Nat) (W : World) (hM : Mp W b n (lk g)) (hok : Ok g) (hwf : Wf g) (hp : (Lit.int .i64 p).wf = true) (hc : W.cell? ⟨gb, 0, none⟩ = some (.map (some b))) :
    Calls Try.prog 66 #[.int .i64 p, .pointer (some ⟨gb, 0, none⟩)] (W.drewN m) fun e w' => e = .returned (.int .i64 (fr g p)) ∧ ∃ m', w' = W.drewN m' :=
  (impl_LoopClosed_find g n p gb b (W.drewN m) hM hok hwf hp hc).mono fun _ _ h_ => ⟨h_.1, m, h_.2.symm⟩
open impl_LoopClosed in
set_option maxHeartbeats 16000000 in
set_option maxRecDepth 100000 in
theorem impl_LoopClosed.calls (k : Nat) (a0_0 : Int) (a0_1 : Int) (A0_2 : Option Addr) (c0_2 : Nat) (l0_2 : List (List Bool)) (A0_3 : Option Addr) (c0_3 : Nat) (l0_3 : List (List Bool)) (r : Bool) (w : World) (hr0_2 : Kd.C (Kd.slice 4 Kd.bool) w A0_2 l0_2.length l0_2) (hc0_2 : l0_2.length ≤ c0_2) (hr0_3 : Kd.C (Kd.slice 4 Kd.bool) w A0_3 l0_3.length l0_3) (hc0_3 : l0_3.length ≤ c0_3) (h : impl_LoopClosed.f k a0_0 a0_1 l0_2 l0_3 = some r) :
    Calls Try.prog 50 #[.agg #[.int .i64 a0_0, .int .i64 a0_1, .slice A0_2 l0_2.length c0_2, .slice A0_3 l0_3.length c0_3]] w fun e w' => e = .returned (.bool r) ∧ Below w.heap.size w w' := by
  have hu := Try.underlying25
  have HR2 := asd hr0_2
  have HC2 := asd hc0_2
  have HR3 := asd hr0_3
  have HC3 := asd hc0_3
  clear hr0_2 hc0_2 hr0_3 hc0_3
  unfold impl_LoopClosed.f at h
  obtain ⟨t, A10, H⟩ := Option.bind_eq_some_iff.mp h
  have A1 := asd A10
  clear h A10
  have hmm := @run_makeMap Try.prog
  have hmf : ∀ (fn : Fn) (first cap : Array Value) (w : World), (Instr.makeFunc fn first cap).run Try.prog w = .ok (.func fn first cap) w := fun _ _ _ _ => rfl
  cases t with
  | false =>
    have H' := (if_neg (by simp)).symm.trans H
    obtain rfl := Option.some.inj H'
    clear H H'
    go_enter Try.func50, Try.ntmps50
    go_wp2_with (first | ((with_reducible refine gate_dst (N := 1) rfl ?_); refine box_event ?hg (N := 1) ?hd (cs := #[.int .i64 a0_0, .int .i64 a0_1, .slice A0_2 l0_2.length c0_2, .slice A0_3 l0_3.length c0_3]) (t := 25) ?hr ?_; (case hd => rfl); (case hg => rfl); (case hr => first | (go_simp; done) | (go_simp; rfl)); intro g1 e1 w1 b1 n1; have B1 := asd b1; have N1 := asd n1; clear e1 b1 n1; have hq0 : w1.cell? ⟨g1, 0, none⟩ = some (.int .i64 a0_0) := (blk_cell B1.out 0).trans rfl; have hq1 : w1.cell? ⟨g1, 1, none⟩ = some (.int .i64 a0_1) := (blk_cell B1.out 1).trans rfl; have hq2 : w1.cell? ⟨g1, 2, none⟩ = some (.slice A0_2 l0_2.length c0_2) := (blk_cell B1.out 2).trans rfl; have hq3 : w1.cell? ⟨g1, 3, none⟩ = some (.slice A0_3 l0_3.length c0_3) := (blk_cell B1.out 3).trans rfl) | ((with_reducible refine gate_callee (f := 48) rfl ?_); refine goesL_ (some 14) rfl rfl Try.func48 (by kernel_rfl) rfl #[.agg #[.int .i64 a0_0, .int .i64 a0_1, .slice A0_2 l0_2.length c0_2, .slice A0_3 l0_3.length c0_3]] rfl (by (try simp only [List.map_toArray, List.map_cons, List.map_nil]); first | done | rfl) ?_; (with_reducible refine (impl_LoopValid.calls k a0_0 a0_1 _ _ l0_2 _ _ l0_3 false _ (Kd.C_below HR2.out N1.out) HC2.out (Kd.C_below HR3.out N1.out) HC3.out A1.out).mono ?_); rintro e w' ⟨rfl, hb⟩; refine ⟨_, rfl, ?_⟩; have N2 := asd (below_then N1.out N1.out.size hb); clear hb))
    go_ret
    exact ⟨rfl, N2.out⟩
  | true =>
    have H' := (if_pos rfl).symm.trans H
    clear H
    obtain ⟨es, A20, H⟩ := Option.bind_eq_some_iff.mp H'
    have A2 := asd A20
    clear H' A20
    by_cases c1 : es.length < 1000000000000000
    · rw [if_pos c1] at H
      by_cases c2 : impl_LoopClosed.Wf (es.map impl_LoopClosed.pr)
      · rw [if_pos c2] at H
        obtain rfl := Option.some.inj H
        have LE := asd c1
        have WF := asd c2
        clear H c1 c2
        go_enter Try.func50, Try.ntmps50
        go_wp2_with (first | ((with_reducible refine gate_dst (N := 1) rfl ?_); refine box_event ?hg (N := 1) ?hd (cs := #[.int .i64 a0_0, .int .i64 a0_1, .slice A0_2 l0_2.length c0_2, .slice A0_3 l0_3.length c0_3]) (t := 25) ?hr ?_; (case hd => rfl); (case hg => rfl); (case hr => first | (go_simp; done) | (go_simp; rfl)); intro g1 e1 w1 b1 n1; have B1 := asd b1; have N1 := asd n1; clear e1 b1 n1; have hq0 : w1.cell? ⟨g1, 0, none⟩ = some (.int .i64 a0_0) := (blk_cell B1.out 0).trans rfl; have hq1 : w1.cell? ⟨g1, 1, none⟩ = some (.int .i64 a0_1) := (blk_cell B1.out 1).trans rfl; have hq2 : w1.cell? ⟨g1, 2, none⟩ = some (.slice A0_2 l0_2.length c0_2) := (blk_cell B1.out 2).trans rfl; have hq3 : w1.cell? ⟨g1, 3, none⟩ = some (.slice A0_3 l0_3.length c0_3) := (blk_cell B1.out 3).trans rfl) | ((with_reducible refine gate_callee (f := 48) rfl ?_); refine goesL_ (some 14) rfl rfl Try.func48 (by kernel_rfl) rfl #[.agg #[.int .i64 a0_0, .int .i64 a0_1, .slice A0_2 l0_2.length c0_2, .slice A0_3 l0_3.length c0_3]] rfl (by (try simp only [List.map_toArray, List.map_cons, List.map_nil]); first | done | rfl) ?_; (with_reducible refine (impl_LoopValid.calls k a0_0 a0_1 _ _ l0_2 _ _ l0_3 true _ (Kd.C_below HR2.out N1.out) HC2.out (Kd.C_below HR3.out N1.out) HC3.out A1.out).mono ?_); rintro e w2 ⟨rfl, hb⟩; refine ⟨_, rfl, ?_⟩; have N2 := asd (below_then N1.out N1.out.size hb); have B2 := asd (blk_below B1.out hb); clear hb B1 hq0 hq1 hq2 hq3; have hq0 : w2.cell? ⟨g1, 0, none⟩ = some (.int .i64 a0_0) := (blk_cell B2.out 0).trans rfl; have hq1 : w2.cell? ⟨g1, 1, none⟩ = some (.int .i64 a0_1) := (blk_cell B2.out 1).trans rfl; have hq2 : w2.cell? ⟨g1, 2, none⟩ = some (.slice A0_2 l0_2.length c0_2) := (blk_cell B2.out 2).trans rfl; have hq3 : w2.cell? ⟨g1, 3, none⟩ = some (.slice A0_3 l0_3.length c0_3) := (blk_cell B2.out 3).trans rfl) | ((with_reducible refine gate_callee (f := 65) rfl ?_); refine goesL_ (some 17) rfl rfl Try.func65 (by kernel_rfl) rfl #[.agg #[.int .i64 a0_0, .int .i64 a0_1, .slice A0_2 l0_2.length c0_2, .slice A0_3 l0_3.length c0_3]] rfl (by (try simp only [List.map_toArray, List.map_cons, List.map_nil]); first | done | rfl) ?_; (with_reducible refine (impl_edgesOf.calls k a0_0 a0_1 _ _ l0_2 _ _ l0_3 es _ (Kd.C_below HR2.out N2.out) HC2.out (Kd.C_below HR3.out N2.out) HC3.out A2.out).mono ?_); rintro e w3 ⟨v3, rfl, ho, hb⟩; refine ⟨_, rfl, ?_⟩; have N3 := asd (below_then N2.out N2.out.size hb); obtain ⟨ao, co, eo⟩ := Kd.R_slice ho; subst eo; have HO := asd (Kd.R_reads' ho).2.2; clear ho hb B2 hq0 hq1 hq2 hq3))
        obtain ⟨q0, hq⟩ : ∃ q, q = es.map pr := ⟨_, rfl⟩
        have HQ := asd hq
        rw [← hq] at WF
        clear hq
        have HN := asd (show Below w3.heap.size w3 (((w3.alloc (.map #[] 0)).alloc (.map #[] 0)).alloc (.cells #[.map (some (w3.heap.size + 1))] 72)) from below_alloc (below_alloc (below_alloc (Below.refl _ _) _) _) _)
        have M4 := asd (show Mp (((w3.alloc (.map #[] 0)).alloc (.map #[] 0)).alloc (.cells #[.map (some (w3.heap.size + 1))] 72)) w3.heap.size 0 (fun _ => none) from ⟨_, ((World.ownsMap_made w3 _ _ _).alloc _).alloc _, at_none⟩)
        have M5 := asd (show Mp (((w3.alloc (.map #[] 0)).alloc (.map #[] 0)).alloc (.cells #[.map (some (w3.heap.size + 1))] 72)) (w3.heap.size + 1) 0 (fun _ => none) from ⟨_, by have h_ := (World.ownsMap_made (H := Unit) (w3.alloc (.map #[] 0)) Try.prog 3 (plainElem Try.prog 3)).alloc (.cells #[.map (some (w3.heap.size + 1))] 72); simpa using h_, at_none⟩)
        have B5 := asd (show (((w3.alloc (.map #[] 0)).alloc (.map #[] 0)).alloc (.cells #[.map (some (w3.heap.size + 1))] 72)).heap[w3.heap.size + 1 + 1]? = some (.cells #[.map (some (w3.heap.size + 1))] 72 (0, 0)) by have h_ := blk_new ((w3.alloc (.map #[] 0)).alloc (.map #[] 0)) (.cells #[.map (some (w3.heap.size + 1))] 72); simpa using h_)
        go_loopg [23] (es.length + 1) (fun kq v23 W => ∃ i : Nat, v23 = .int .i64 (i : Int) ∧ Aside0 (i ≤ es.length ∧ es.length + 1 ≤ kq + i) ∧ Aside0 (Mp W w3.heap.size (2 * i) (mm (q0.take i))) ∧ Aside0 (Mp W (w3.heap.size + 1) i (lk (gs [] (q0.take i)))) ∧ Aside0 (W.heap[w3.heap.size + 1 + 1]? = some (.cells #[.map (some (w3.heap.size + 1))] 72 (0, 0))) ∧ Aside0 (Below w3.heap.size w3 W))
        case atStart => exact ⟨0, rfl, ⟨by omega, by omega⟩, M4, M5, B5, HN⟩
        case round =>
          clear HN M4 M5 B5
          obtain ⟨i, rfl, HI, M4, M5, B5, HN⟩ := hrel
          cases gk with
          | zero => exact absurd HI.out (by omega)
          | succ k1 =>
            by_cases hlt : i < es.length
            · have LT := asd hlt
              obtain ⟨ad, ea, hy0, hy1⟩ := at_T67 HO.out (i : Int) (by omega) (by omega)
              obtain ⟨a, ha⟩ : ∃ a, a = (rd_T67 es (i : Int)).f0 := ⟨_, rfl⟩
              obtain ⟨b, hb⟩ : ∃ b, b = (rd_T67 es (i : Int)).f1 := ⟨_, rfl⟩
              rw [← ha] at hy0
              rw [← hb] at hy1
              have EL := asd (show q0.take (i + 1) = q0.take i ++ [(a, b)] by
                have hl : i < q0.length := by rw [HQ.out, List.length_map]; exact hlt
                rw [List.take_succ_eq_append_getElem hl]
                congr 2
                have e1 : q0[i] = pr es[i] := by simp only [HQ.out, List.getElem_map]
                rw [e1, ha, hb]
                have e2 : rd_T67 es (i : Int) = es[i] := by unfold rd_T67; simp [hlt]
                rw [e2]; rfl)
              have MB := asd (show (a, b) ∈ q0 from List.mem_of_mem_take (i := i + 1) (by rw [EL.out]; simp))
              have WA := asd (WF.out _ MB.out).1
              have WB := asd (WF.out _ MB.out).2
              clear ha hb
              subst ea
              have hx0 : wr.cell? (ad.add (i * 2)) = some (.int .i64 a) := (HN.out.cell (World.block_lt_of_cell? w3 _ hy0)).trans hy0
              have hx1 : wr.cell? ⟨(ad.add (i * 2)).block, (ad.add (i * 2)).off + 1, none⟩ = some (.int .i64 b) := (HN.out.cell (World.block_lt_of_cell? w3 _ hy1)).trans hy1
              clear hy0 hy1
              obtain ⟨D1, O1, T1⟩ := M4.out
              have O1 := asd (show (wr.alloc (.cells #[.int .i64 a, .int .i64 b] 67)).ownsMap Try.prog 3 (plainElem Try.prog 3) w3.heap.size (2 * i) D1 from O1.alloc _)
              have T1 := asd T1
              have SZ := asd (show w3.heap.size + 1 + 1 < wr.heap.size from blk_lt B5.out)
              have PL := asd (show (q0.take i).length < 1000000000000000 by have := List.length_take_le i q0; have := LE.out; have := HQ.out; have e3 : q0.length = es.length := (by rw [HQ.out, List.length_map]); omega)
              have hc0 : (wr.alloc (.cells #[.int .i64 a, .int .i64 b] 67)).cell? ⟨wr.heap.size, 0, none⟩ = some (.int .i64 a) := (blk_cell (blk_new wr _) 0).trans rfl
              have hc1 : (wr.alloc (.cells #[.int .i64 a, .int .i64 b] 67)).cell? ⟨wr.heap.size, 1, none⟩ = some (.int .i64 b) := (blk_cell (blk_new wr _) 1).trans rfl
              have BN := asd (blk_new wr (.cells #[.int .i64 a, .int .i64 b] 67))
              have tok1 : True := trivial
              go_wp2_with (first | (at_lookup; have _t := tok1; refine wpList_lookup_own_int _ rfl _ _ 72 rfl 3 3 .i64 law Try.underlying72 Try.underlying3 (zeroE _) w3.heap.size (2 * i) D1 rfl O1.out _ _ rfl (Maps.keyOf_int_mk Try.underlying3 WA.out) ?_; intro c1 hat hwc; have HC1 := asd (at_get T1.out WA.out hat); have W1 := asd (mm_step (q0.take i) a b c1 _ PL.out HC1.out rfl).1; clear hat hwc tok1; have tok2 : True := trivial) | (at_mapUpdate; have _t := tok2; refine wpList_mapUpdate_own _ rfl _ _ _ 72 rfl 3 3 law Try.underlying72 _ w3.heap.size (2 * i) D1 rfl O1.out (by have := LE.out; unfold maxLen; omega) _ _ _ rfl rfl (Maps.keyOf_int_mk Try.underlying3 WA.out) _ [] (plainElem_int Try.underlying3 W1.out) ?_; intro w5 own1 hg1; have T2 := asd (at_put (v := wrap64 (c1 + 1)) T1.out WA.out); have O2 := asd own1; have G1 := asd hg1; have BN2 := asd (blk_grown BN.out hg1 (by intro e_; injection e_ with e_; have := SZ.out; omega)); clear own1 hg1 O1 T1 BN hc0 hc1 tok2; have hc1 : w5.cell? ⟨wr.heap.size, 1, none⟩ = some (.int .i64 b) := (blk_cell BN2.out 1).trans rfl; have tok3 : True := trivial) | (at_lookup; have _t := tok3; refine wpList_lookup_own_int _ rfl _ _ 72 rfl 3 3 .i64 law Try.underlying72 Try.underlying3 (zeroE _) w3.heap.size (2 * i + 1) _ rfl O2.out _ _ rfl (Maps.keyOf_int_mk Try.underlying3 WB.out) ?_; intro c2 hat hwc; have HC2 := asd (at_get T2.out WB.out hat); have W2 := asd (mm_step (q0.take i) a b c1 c2 PL.out HC1.out HC2.out).2; clear hat hwc tok3; have tok4 : True := trivial) | (at_mapUpdate; have _t := tok4; refine wpList_mapUpdate_own _ rfl _ _ _ 72 rfl 3 3 law Try.underlying72 _ w3.heap.size (2 * i + 1) _ rfl O2.out (by have := LE.out; unfold maxLen; omega) _ _ _ rfl rfl (Maps.keyOf_int_mk Try.underlying3 WB.out) _ [] (plainElem_int Try.underlying3 W2.out.1) ?_; intro w6 own2 hg2; have T3 := asd (at_put (v := wrap64 (c2 + 1)) T2.out WB.out); have M6 := asd (show Mp w6 w3.heap.size (2 * (i + 1)) (mm (q0.take (i + 1))) by rw [EL.out, ← W2.out.2]; exact ⟨_, own2, T3.out⟩); have GG := asd (((World.grownBy_alloc wr _ none).but (some w3.heap.size)).andThen (G1.out.andThen hg2 (fun j hj => .inr hj)) (fun j hj => .inr hj)); have BN3 := asd (blk_grown BN2.out hg2 (by intro e_; injection e_ with e_; have := SZ.out; omega)); clear own2 hg2 O2 T2 T3 G1 BN2 hc1 W1 W2 HC1 HC2 tok4; have hc0 : w6.cell? ⟨wr.heap.size, 0, none⟩ = some (.int .i64 a) := (blk_cell BN3.out 0).trans rfl; have hc1 : w6.cell? ⟨wr.heap.size, 1, none⟩ = some (.int .i64 b) := (blk_cell BN3.out 1).trans rfl))
              have M5b := asd (M5.out.kept GG.out (by intro e_; injection e_ with e_; omega))
              have B5b := asd (blk_grown B5.out GG.out (by intro e_; injection e_ with e_; omega))
              have HNb := asd (show Below w3.heap.size w3 w6 from HN.out.grown GG.out HN.out.size (fun k_ e_ => by injection e_ with e_; omega))
              clear M5 B5 HN GG M4
              have hcB : w6.cell? ⟨w3.heap.size + 1 + 1, 0, none⟩ = some (.map (some (w3.heap.size + 1))) := (blk_cell B5b.out 0).trans rfl
              obtain ⟨g, hg⟩ : ∃ g, g = gs [] (q0.take i) := ⟨_, rfl⟩
              rw [← hg] at M5b
              have HG := asd hg
              have OKG := asd (show Ok g by rw [hg]; exact gs_ok _ _ trivial)
              have WFG := asd (show Wf g by rw [hg]; exact gs_wf _ _ (fun e he => WF.out e (List.mem_of_mem_take he)) (fun _ h_ => by cases h_))
              clear hg
              go_quiet ((first | (go_at_call 66; with_reducible exact impl_LoopClosed_quiet g i a _ _ _ _ M5b.out OKG.out WFG.out WA.out hcB) | (go_at_call 66; with_reducible exact impl_LoopClosed_quiet g i b _ _ _ _ M5b.out OKG.out WFG.out WB.out hcB)))
              clear hc0 hc1 BN3
              by_cases hne : fr g a = fr g b
              · have d9 : (fr g a != fr g b) = false := by rw [hne]; simp
                have M7 := asd (show Mp w6 (w3.heap.size + 1) (i + 1) (lk (gs [] (q0.take (i + 1)))) by
                  rw [EL.out, gs_snoc, ← HG.out]
                  unfold un
                  rw [if_pos hne]
                  obtain ⟨D, o_, t_⟩ := M5b.out
                  exact ⟨D, o_.mono (by omega), t_⟩)
                clear hne
                have hle := LE.out
                go_wp2
                go_roundg k1
                case measure => have := HI.out; omega
                case rel => exact ⟨i + 1, by go_num, ⟨by have := LT.out; omega, by have := HI.out; omega⟩, ⟨M6.out.drewN _⟩, ⟨M7.out.drewN _⟩, B5b, ⟨pw_below_drewN HNb.out _⟩⟩
              · have d9 : (fr g a != fr g b) = true := by simpa using hne
                have HNE := asd hne
                clear hne
                obtain ⟨D5, o5, t5⟩ := M5b.out
                have T5 := asd t5
                have O5 := asd (show (w6.drewN nq).ownsMap Try.prog 3 (plainElem Try.prog 3) (w3.heap.size + 1) i D5 from o5)
                clear o5 t5
                have hle := LE.out
                go_wp2_with (first | (at_mapUpdate; refine wpList_mapUpdate_own _ rfl _ _ _ 72 rfl 3 3 law Try.underlying72 _ (w3.heap.size + 1) i _ rfl O5.out (by have := LE.out; have := LT.out; unfold maxLen; omega) _ _ _ rfl rfl (Maps.keyOf_int_mk Try.underlying3 (fr_wf WFG.out WA.out)) _ [] (plainElem_int Try.underlying3 (fr_wf WFG.out WB.out)) ?_; intro w7 own5 hg5; have M7 := asd (show Mp w7 (w3.heap.size + 1) (i + 1) (lk (gs [] (q0.take (i + 1)))) by rw [EL.out, gs_snoc, ← HG.out, lk_un HNE.out]; exact ⟨_, own5, at_put T5.out (fr_wf WFG.out WA.out)⟩); have M8 := asd ((M6.out.drewN nq).kept hg5 (by intro e_; injection e_ with e_; omega)); have B7 := asd (blk_grown (blk_drewN B5b.out nq) hg5 (by intro e_; injection e_ with e_; omega)); have HN7 := asd (show Below w3.heap.size w3 w7 from (pw_below_drewN HNb.out _).grown hg5 (pw_below_drewN HNb.out _).size (fun k_ e_ => by injection e_ with e_; omega)); clear own5 hg5))
                go_roundg k1
                case measure => have := HI.out; omega
                case rel => exact ⟨i + 1, by go_num, ⟨by have := LT.out; omega, by have := HI.out; omega⟩, M8, M7, B7, HN7⟩
            · have e1 : i = es.length := by have := HI.out; omega
              have e2 : q0.take i = q0 := by rw [e1]; exact List.take_of_length_le (by rw [HQ.out, List.length_map]; exact Nat.le_refl _)
              rw [e2] at M4 M5
              have QL := asd (show q0.length = es.length by rw [HQ.out, List.length_map])
              clear HI e2
              subst e1
              obtain ⟨wo, rfl⟩ : ∃ wo : World, wo = wr := ⟨_, rfl⟩
              obtain ⟨G, hG⟩ : ∃ G, G = gs [] q0 := ⟨_, rfl⟩
              rw [← hG] at M5
              have HG := asd hG
              have OKG := asd (show Ok G by rw [hG]; exact gs_ok _ _ trivial)
              have WFG := asd (show Wf G by rw [hG]; exact gs_wf _ _ WF.out (fun _ h_ => by cases h_))
              clear hG
              obtain ⟨n4, hn4⟩ : ∃ n, n = 2 * es.length := ⟨_, rfl⟩
              obtain ⟨nG, hnG⟩ : ∃ n, n = es.length := ⟨_, rfl⟩
              rw [← hn4] at M4
              rw [← hnG] at M5
              clear hn4 hnG
              obtain ⟨D, o4, t4⟩ := M4.out
              have O4 := asd o4
              have T4 := asd t4
              clear o4 t4 M4
              have hlt' : ¬ es.length < es.length := Nat.lt_irrefl _
              have SZ := asd (show w3.heap.size + 1 + 1 < wo.heap.size from blk_lt B5.out)
              go_wp2_with (first | (at_range; refine wpList_range_own _ rfl _ 72 rfl 3 3 law Try.underlying72 _ w3.heap.size n4 D rfl O4.out ?_; intro w0 hrg0 hg0 hs0; have RG := asd hrg0; have M5w := asd (M5.out.kept hg0 (by simp)); have B5w := asd (blk_grown B5.out hg0 (by simp)); have HNw := asd (show Below w3.heap.size w3 w0 from HN.out.grown hg0 HN.out.size (fun k_ e_ => by cases e_)); clear hrg0 hg0 hs0 M5 B5 HN O4))
              go_frame
              go_loopg [] (Maps.size D + 1) (fun kq W => ∃ (left : Lit → Bool) (cnt : Nat), Aside0 (W.ranges Try.prog 3 (plainElem Try.prog 3) w3.heap.size wo.heap.size n4 D left cnt) ∧ Aside0 (cnt + 1 ≤ kq) ∧ Aside0 (∀ p, (Lit.int .i64 p).wf = true → cn q0 p ≠ 0 → left (.int .i64 p) = false → gd q0 p) ∧ Aside0 (Mp W (w3.heap.size + 1) nG (lk G)) ∧ Aside0 (W.heap[w3.heap.size + 1 + 1]? = some (.cells #[.map (some (w3.heap.size + 1))] 72 (0, 0))) ∧ Aside0 (Below w3.heap.size w3 W))
              case atStart => exact ⟨_, _, RG, ⟨Nat.le_refl _⟩, ⟨fun p hp hc hl => by
                have h1 := (T4.out.2 p hp).1
                rw [hl] at h1
                unfold mm at h1
                rw [if_neg hc] at h1
                simp at h1⟩, M5w, B5w, HNw⟩
              case round =>
                clear RG M5w B5w HNw
                obtain ⟨left, cnt, RG, HC, HV, M5, B5, HN⟩ := hrel
                cases gk with
                | zero => exact absurd HC.out (by omega)
                | succ k1 =>
                  go_wp2_with (first | (at_next; refine wpList_next_ranges_ii _ rfl _ rfl 3 3 .i64 .i64 law Try.underlying3 Try.underlying3 w3.heap.size wo.heap.size n4 D left cnt rfl RG.out ?_ ?_))
                  · intro _ hl0
                    have HR := asd (cl_of_all (q0 := q0) (fun p hc => HV.out p (cn_wf WF.out hc) hc (hl0 _)))
                    clear hl0
                    go_wp2
                    go_ret
                    exact ⟨by rw [← HQ.out, HR.out, QL.out]; first | rfl | (congr 2; simp) | simp, below_then N3.out N3.out.size HN.out⟩
                  · intro x c w7 cnt1 hwx hwc hlx hat hrg1 hlt1 hg1 hs1 hen
                    have WX := asd hwx
                    have HCN := asd (mm_some (at_some T4.out hwx hat))
                    have RG1 := asd hrg1
                    have LT1 := asd hlt1
                    have M5w := asd (M5.out.kept hg1 (by intro e_; injection e_ with e_; have := SZ.out; omega))
                    have B5w := asd (blk_grown B5.out hg1 (by intro e_; injection e_ with e_; have := SZ.out; omega))
                    have HNw := asd (show Below w3.heap.size w3 w7 from HN.out.grown hg1 HN.out.size (fun k_ e_ => by injection e_ with e_; have := SZ.out; omega))
                    clear hwx hwc hlx hat hrg1 hlt1 hg1 hs1 M5 B5 HN RG
                    have hcB : w7.cell? ⟨w3.heap.size + 1 + 1, 0, none⟩ = some (.map (some (w3.heap.size + 1))) := (blk_cell B5w.out 0).trans rfl
                    have HPOS := asd (show 0 < es.length by
                      obtain ⟨e, he, _⟩ := (cn_pos _ _).1 HCN.out.1
                      have := List.length_pos_of_mem he
                      rw [QL.out] at this; exact this)
                    obtain ⟨ad, ea, hy0, hy1⟩ := at_T67 HO.out 0 (by omega) (by have := HPOS.out; omega)
                    obtain ⟨e0, he0⟩ : ∃ a, a = (rd_T67 es 0).f0 := ⟨_, rfl⟩
                    rw [← he0] at hy0
                    have HE := asd (show (q0.headD (0, 0)).1 = e0 by
                      rw [HQ.out, he0]
                      cases es with
                      | nil => have := HPOS.out; simp at this
                      | cons d t => rfl)
                    have WE := asd (show (Lit.int .i64 e0).wf = true by
                      have h1 := HQ.out
                      cases es with
                      | nil => have := HPOS.out; simp at this
                      | cons d t => rw [he0]; exact (WF.out _ (by rw [h1]; exact List.mem_cons_self ..)).1)
                    clear he0 hy1
                    subst ea
                    have hx0 : w7.cell? (ad.add 0) = some (.int .i64 e0) := (HNw.out.cell (World.block_lt_of_cell? w3 _ hy0)).trans hy0
                    have hx0' : w7.cell? ad = some (.int .i64 e0) := by rw [← Addr.add_zero' ad]; exact hx0
                    clear hy0
                    have CX := asd (show ∀ m, Calls Try.prog 66 #[.int .i64 x, .pointer (some ⟨w3.heap.size + 1 + 1, 0, none⟩)] (w7.drewN m) fun e w'' => e = .returned (.int .i64 (fr G x)) ∧ ∃ n, w'' = w7.drewN n from fun m => impl_LoopClosed_quiet G nG x _ _ m _ M5w.out OKG.out WFG.out WX.out hcB)
                    have CE := asd (show ∀ m, Calls Try.prog 66 #[.int .i64 e0, .pointer (some ⟨w3.heap.size + 1 + 1, 0, none⟩)] (w7.drewN m) fun e w'' => e = .returned (.int .i64 (fr G e0)) ∧ ∃ n, w'' = w7.drewN n from fun m => impl_LoopClosed_quiet G nG e0 _ _ m _ M5w.out OKG.out WFG.out WE.out hcB)
                    have hpos0 : 0 < es.length := HPOS.out
                    by_cases c2 : c = 2
                    · subst c2
                      have d1 : ((2 : Int) != 2) = false := rfl
                      by_cases c3 : fr G x = fr G e0
                      · have d2 : (fr G x != fr G e0) = false := by rw [c3]; simp
                        have HX := asd (show gd q0 x from ⟨by have := HCN.out.2; omega, by rw [← HG.out, HE.out]; exact c3⟩)
                        clear c3
                        go_wp2
                        go_quiet ((first | (go_at_call 66; with_reducible exact CX.out _) | (go_at_call 66; with_reducible exact CE.out _)))
                        go_wp2
                        go_roundg k1
                        case measure => omega
                        case rel => exact ⟨fun z => left z && !z.sameKey (Lit.int .i64 x), cnt1, ⟨RG1.out⟩, ⟨by have := HC.out; have := LT1.out; omega⟩, ⟨fun p hp hc hl => by
                          by_cases e : p = x
                          · rw [e]; exact HX.out
                          · refine HV.out p hp hc ?_
                            have hl : (left (.int .i64 p) && !(Lit.int .i64 p).sameKey (.int .i64 x)) = false := hl
                            rw [Maps.sameKey_ne (show (Lit.int .i64 p) ≠ .int .i64 x from fun e' => e (by injection e'))] at hl
                            simpa using hl⟩, ⟨M5w.out.drewN _⟩, B5w, ⟨pw_below_drewN HNw.out _⟩⟩
                      · have d2 : (fr G x != fr G e0) = true := by simpa using c3
                        have HBAD := asd (cl_of_bad (q0 := q0) HCN.out.1 (fun hg_ => c3 (by rw [HG.out, ← HE.out]; exact hg_.2)))
                        clear c3
                        go_wp2
                        go_quiet ((first | (go_at_call 66; with_reducible exact CX.out _) | (go_at_call 66; with_reducible exact CE.out _)))
                        go_wp2
                        go_ret
                        exact ⟨show Ending.returned (.bool false) = _ by rw [← HQ.out, HBAD.out], below_then N3.out N3.out.size (pw_below_drewN HNw.out _)⟩
                    · have d1 : (c != 2) = true := by simpa using c2
                      have HB := asd (cl_of_bad (q0 := q0) HCN.out.1 (fun hg_ => c2 (by rw [HCN.out.2, hg_.1]; rfl)))
                      clear c2
                      go_wp2
                      go_quiet ((first | (go_at_call 66; with_reducible exact CX.out _) | (go_at_call 66; with_reducible exact CE.out _)))
                      go_wp2
                      go_ret
                      exact ⟨show Ending.returned (.bool false) = _ by rw [← HQ.out, HB.out], below_then N3.out N3.out.size (pw_below_drewN HNw.out _)⟩
      · rw [if_neg c2] at H; cases H
    · rw [if_neg c1] at H; cases H

end Go.Proofs.Ytncmneliinbjdaa.PMk
