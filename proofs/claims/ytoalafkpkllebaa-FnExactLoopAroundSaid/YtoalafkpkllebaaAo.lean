/- The plain machine's operations without calls do what the program's do. No conditions. -/
import Derived.Test.YtoalafkpkllebaaAm
import Derived.Laws.Small
import Derived.Laws.MakeOwn
import Derived.Laws.Tables
import Derived.Laws.StructEq
import Derived.Lib.LazyBuf
import Derived.WalkSpells
set_option linter.unusedVariables false
set_option linter.unusedSimpArgs false
namespace Go.Proofs.Ytoalafkpkllebaa.Ab
open Go

section
variable {P : Program} {E0 : En} {H0 : Hp} {w0 : World} {E : En} {la : Nat → Nat} {s : St} {H : Hp} {a : Act} {w : World}

/-- What follows an operation. -/
def Nx (E0 : En) (H0 : Hp) (w0 : World) (K : AV → St → Hp → An) (r : AV × Hp) (o : Oper) (a : Act) (next : Act → World → Prop) : Prop :=
  ∀ v rv s' H' E' la' w', K v s' H' = some r → Inv E0 H0 w0 E' la' s' H' a w' → VR E' la' v rv → next (a.put o.dst rv) w'
theorem wp_val {o : Oper} {next : Act → World → Prop} {Q : Exit → Act → World → Prop} {rv : Value} {w' : World} (h : (execOp a.eval o).run P w = .ok (.value rv) w') (hn : next (a.put o.dst rv) w') : o.wp P a w next Q := by
  unfold Oper.wp; rw [h]; exact hn
theorem wp_skp {o : Oper} {next : Act → World → Prop} {Q : Exit → Act → World → Prop} {w' : World} (h : (execOp a.eval o).run P w = .ok .skip w') (hn : next (a.put o.dst Go.undef) w') : o.wp P a w next Q := by
  unfold Oper.wp; rw [h]; exact hn

theorem info_of {t : TypeId} {d : TypeDesc} (h : P.underlying t = some d) : ∃ i, P.info? t = some i ∧ szOf P t = i.size := by
  unfold Program.underlying at h
  cases hi : P.info? t with
  | none => simp [hi] at h
  | some i => exact ⟨i, rfl, by simp [szOf, hi]⟩
theorem run_sz {t : TypeId} {i : TypeInfo} (h : P.info? t = some i) (w : World) : (sizeOf t).run P w = .ok (szOf P t) w := by
  simp [sizeOf, typeInfo, h, szOf]
theorem run_ag {t : TypeId} {d : TypeDesc} (h : P.underlying t = some d) (w : World) : (isAgg t).run P w = .ok (isAggT P t) w := by
  unfold isAgg isAggT
  rw [Sem.run_bind, run_underlying h, h]
  cases d <;> rfl
theorem kinds_u {n : Nat} {t : TypeId} {cs : List CK} (h : kinds P n t = some cs) : ∃ d, P.underlying t = some d := by
  cases n with
  | zero => simp [kinds] at h
  | succ n =>
    unfold kinds at h
    cases hu : P.underlying t with
    | none => simp [hu] at h
    | some d => exact ⟨d, rfl⟩

theorem HR.cell (h : HR E H w) {b o : Nat} {v : AV} (hv : H.cell b o = some v) : b < E.nb ∧ ∃ rv, w.cell? ⟨E.be b, o, none⟩ = some rv ∧ GR E v rv := by
  unfold Hp.cell at hv
  split at hv
  · rename_i x hx
    obtain ⟨c, e, fz, h1, h2, h3, h4, h5⟩ := h.live b x hx
    obtain ⟨rv, k1, k2⟩ := h5 o v hv
    exact ⟨h.blt hx, rv, (cell_of_row w _ o c e fz h1).trans k1, k2⟩
  · simp at hv
theorem toI_eq {k : IntKind} {v : AV} {n : Int} (h : v.toI k = some n) : v = .int k n := by
  unfold AV.toI at h; split at h
  · split at h
    · simp at h; subst_vars; rfl
    · simp at h
  · simp at h
theorem toB_eq {v : AV} {b : Bool} (h : v.toB = some b) : v = .bool b := by
  unfold AV.toB at h; split at h <;> simp at h; subst_vars; rfl
theorem toS_eq {sz : Nat} {v : AV} {x : Sl} (h : v.toS sz = some x) : v = .sl sz x := by
  unfold AV.toS at h; split at h
  · split at h
    · simp at h; subst_vars; rfl
    · simp at h
  · simp at h
theorem toP_eq {v : AV} {p : Nat × Nat} (h : v.toP = some p) : v = .ptr p.1 p.2 := by
  unfold AV.toP at h; split at h <;> simp at h; subst_vars; rfl
theorem toF_eq {v : AV} {p : FuncId × List AV} (h : v.toF = some p) : v = .fn p.1 p.2 := by
  unfold AV.toF at h; split at h <;> simp at h; subst_vars; rfl
theorem nK_eq {c : CK} {v : AV} {K : AV → An} {r : AV × Hp} (h : nK c v K = some r) : K v = some r ∧ v.cell = true := by
  unfold nK at h
  split at h <;> obtain ⟨x, h1, h2⟩ := Option.bind_eq_some_iff.1 h
  · rw [toI_eq h1]; exact ⟨h2, rfl⟩
  · rw [toB_eq h1]; exact ⟨h2, rfl⟩
  · rw [toS_eq h1]; exact ⟨h2, rfl⟩
  · rw [toP_eq h1]; exact ⟨h2, rfl⟩
  · rw [toF_eq h1]; exact ⟨h2, rfl⟩
theorem ldK_nK (c : CK) (H : Hp) (b o : Nat) (K : AV → An) : ldK c H b o K = (H.cell b o).bind fun v => nK c v K := by
  cases c <;> simp [ldK, nK, ldI, ldB, ldS, ldP, ldF, Option.bind_assoc]
theorem ldK_ok (h : HR E H w) {c : CK} {b o : Nat} {K : AV → An} {r : AV × Hp} (hl : ldK c H b o K = some r) :
    ∃ v rv, K v = some r ∧ b < E.nb ∧ w.cell? ⟨E.be b, o, none⟩ = some rv ∧ GR E v rv := by
  rw [ldK_nK] at hl
  obtain ⟨v, h1, h2⟩ := Option.bind_eq_some_iff.1 hl
  obtain ⟨hb, rv, k1, k2⟩ := h.cell h1
  exact ⟨v, rv, (nK_eq h2).1, hb, k1, k2⟩
theorem ldKs_ok (h : HR E H w) : ∀ {cs : List CK} {b o : Nat} {K : List AV → An} {r : AV × Hp}, ldKs cs H b o K = some r →
    ∃ l rl, K l = some r ∧ rl.length = cs.length ∧ (∀ (j : Nat) v, rl[j]? = some v → w.cell? ⟨E.be b, o + j, none⟩ = some v) ∧ GRs E l rl
  | [], b, o, K, r, hl => ⟨[], [], hl, rfl, fun j v hv => by simp at hv, .nil⟩
  | c :: cs, b, o, K, r, hl => by
    obtain ⟨v, rv, h1, _, h2, h3⟩ := ldK_ok h hl
    obtain ⟨l, rl, k1, k2, k3, k4⟩ := ldKs_ok h h1
    refine ⟨v :: l, rv :: rl, k1, by simp [k2], fun j u hu => ?_, .cons h3 k4⟩
    cases j with
    | zero => simp at hu; subst hu; exact h2
    | succ j =>
      have := k3 j u (by simpa using hu)
      rwa [show o + 1 + j = o + (j + 1) by omega] at this

theorem nKs_eq : ∀ {cs : List CK} {m : List AV} {v : AV} {i : Nat} {K : List AV → An} {r : AV × Hp}, v = .agg m → i + cs.length = m.length → nKs cs v i K = some r → K (m.drop i) = some r
  | [], m, v, i, K, r, hv, hl, h => by
    have : m.drop i = [] := List.drop_eq_nil_of_le (by simp at hl; omega)
    rw [this]; exact h
  | c :: cs, m, v, i, K, r, hv, hl, h => by
    have hi : i < m.length := by simp at hl; omega
    have := nKs_eq (cs := cs) (m := m) (v := v) (i := i + 1) hv (by simp at hl ⊢; omega) (nK_eq h).1
    rw [List.drop_eq_getElem_cons hi]
    have hc : v.cel i = m[i] := by subst hv; simp [AV.cel, hi]
    rw [hc] at this
    exact this
theorem nT_eq {t : TypeId} {v : AV} {K : AV → An} {r : AV × Hp} (h : nT P t v K = some r) : K v = some r := by
  unfold nT at h
  split at h
  · rename_i cs hcs
    cases ha : isAggT P t with
    | true =>
      simp only [ha, cond_true] at h
      cases hg : v.isAgg cs.length with
      | false => simp [hg] at h
      | true =>
        simp only [hg, cond_true] at h
        cases v with
        | agg m =>
          have := nKs_eq (m := m) rfl (by simp [AV.isAgg] at hg; omega) h
          simpa using this
        | _ => simp [AV.isAgg] at hg
    | false =>
      simp only [ha, cond_false] at h
      split at h
      · exact (nK_eq h).1
      · simp at h
  · simp at h
theorem nTs_eq : ∀ {ts : List TypeId} {m : List AV} {v : AV} {i : Nat} {K : List AV → An} {r : AV × Hp}, v = .tup m → i + ts.length = m.length → nTs P ts v i K = some r → K (m.drop i) = some r
  | [], m, v, i, K, r, hv, hl, h => by
    have : m.drop i = [] := List.drop_eq_nil_of_le (by simp at hl; omega)
    rw [this]; exact h
  | t :: ts, m, v, i, K, r, hv, hl, h => by
    have hi : i < m.length := by simp at hl; omega
    have := nTs_eq (ts := ts) (m := m) (v := v) (i := i + 1) hv (by simp at hl ⊢; omega) (nT_eq h)
    rw [List.drop_eq_getElem_cons hi]
    have hc : v.nth i = m[i] := by subst hv; simp [AV.nth, hi]
    rw [hc] at this
    exact this
theorem nR_eq {t : TypeId} {v : AV} {K : AV → An} {r : AV × Hp} (h : nR P t v K = some r) : K v = some r ∨ K .undef = some r := by
  unfold nR at h
  split at h
  · split at h
    · exact .inr h
    · rename_i ts _ _ _
      cases hg : v.isTup ts.toList.length with
      | false => rw [hg] at h; simp at h
      | true =>
        rw [hg] at h
        simp only [cond_true] at h
        cases v with
        | tup m =>
          have := nTs_eq (m := m) rfl (by simp [AV.isTup] at hg; simp; omega) h
          exact .inl (by simpa using this)
        | _ => simp [AV.isTup] at hg
  · exact .inl (nT_eq h)

theorem VR.int_inv {k : IntKind} {n : Int} {rv : Value} (h : VR E la (.int k n) rv) : rv = .int k n := by
  cases h with
  | g g => cases g; rfl
theorem VR.bool_inv {b : Bool} {rv : Value} (h : VR E la (.bool b) rv) : rv = .bool b := by
  cases h with
  | g g => cases g; rfl
theorem VR.ptr_inv {b o : Nat} {rv : Value} (h : VR E la (.ptr b o) rv) : b < E.nb ∧ rv = .pointer (some ⟨E.be b, o, none⟩) := by
  cases h with
  | g g => cases g with | ptr _ _ hb => exact ⟨hb, rfl⟩
theorem VR.lp_inv {t o : Nat} {rv : Value} (h : VR E la (.lp t o) rv) : rv = .pointer (some ⟨la t, o, none⟩) := by
  cases h with
  | g g => cases g
  | lp => rfl
theorem VR.ls_inv {sz t n : Nat} {rv : Value} (h : VR E la (.ls sz t n) rv) : rv = .slice (some ⟨la t, 0, none⟩) n n := by
  cases h with
  | g g => cases g
  | ls => rfl
theorem VR.agg_inv {l : List AV} {rv : Value} (h : VR E la (.agg l) rv) : ∃ vs, rv = .agg ⟨vs⟩ ∧ GRs E l vs := by
  cases h with
  | g g => cases g
  | agg g => exact ⟨_, rfl, g⟩
theorem VR.fn_inv {f : FuncId} {cs : List AV} {rv : Value} (h : VR E la (.fn f cs) rv) : ∃ vs, rv = .func (.func f) #[] ⟨vs⟩ ∧ GRs E cs vs := by
  cases h with
  | g g => cases g with | fn _ _ vs g => exact ⟨_, rfl, g⟩
theorem VR.sl_inv {sz : Nat} {y : Sl} {rv : Value} (h : VR E la (.sl sz y) rv) : GR E (.sl sz y) rv := by
  cases h with
  | g g => exact g
theorem binI_ok {op : BinOp} {k : IntKind} {x y : Int} {K : AV → An} {r : AV × Hp} {t : TypeId} (hs : op ≠ .shl ∧ op ≠ .shr) (h : binI op k x y K = some r) :
    ∃ v rv, K v = some r ∧ (∀ w : World, (Go.binOp op t (.int k x) (.int k y)).run P w = .ok rv w) ∧ GR E v rv := by
  cases op <;> simp only [binI] at h <;> first
    | exact absurd rfl hs.1
    | exact absurd rfl hs.2
    | exact ⟨_, _, h, fun w => by (first | (simp [Go.binOp, Op.intArith, Op.intBits, Op.intCmp]; done) | (simp [Go.binOp, Op.intArith, Op.intBits, Op.intCmp]; rfl)), .int _ _⟩
    | exact ⟨_, _, h, fun w => by (first | (simp [Go.binOp, Op.intArith, Op.intBits, Op.intCmp]; done) | (simp [Go.binOp, Op.intArith, Op.intBits, Op.intCmp]; rfl)), .bool _⟩
    | (split at h
       · simp at h
       · rename_i hy
         exact ⟨_, _, h, fun w => by (first | (simp [Go.binOp, Op.intDiv, hy]; done) | (simp [Go.binOp, Op.intDiv, hy]; rfl)), .int _ _⟩)
    | simp at h
theorem shI_ok {op : BinOp} {k k' : IntKind} {x y : Int} {K : AV → An} {r : AV × Hp} {t : TypeId} (hs : op = .shl ∨ op = .shr) (h : shI op k x y K = some r) :
    ∃ v rv, K v = some r ∧ (∀ w : World, (Go.binOp op t (.int k x) (.int k' y)).run P w = .ok rv w) ∧ GR E v rv := by
  unfold shI at h
  split at h
  · simp at h
  · rename_i hy
    rcases hs with rfl | rfl
    · exact ⟨_, _, h, fun w => by (first | (simp [Go.binOp, Op.shift, hy]; done) | (simp [Go.binOp, Op.shift, hy]; rfl)), .int _ _⟩
    · exact ⟨_, _, h, fun w => by (first | (simp [Go.binOp, Op.shift, hy]; done) | (simp [Go.binOp, Op.shift, hy]; rfl)), .int _ _⟩
theorem twoI_eq {l : List AV} {p : Int × Int} (h : twoI l = some p) : l = [.int .i64 p.1, .int .i64 p.2] := by
  unfold twoI at h
  split at h
  · simp at h; subst h; rfl
  · simp at h
theorem GRs_two {a b : Int} {vs : List Value} (h : GRs E [.int .i64 a, .int .i64 b] vs) : vs = [.int .i64 a, .int .i64 b] := by
  cases h with
  | cons g1 h =>
    cases g1
    cases h with
    | cons g2 h =>
      cases g2
      cases h
      rfl
theorem isIT_eq {t : TypeId} (h : isIT P t = true) : ∃ k, P.underlying t = some (.int k) := by
  unfold isIT at h
  split at h
  · exact ⟨_, by assumption⟩
  · simp at h
theorem run_part_int {t : TypeId} (h : isIT P t = true) {cs : Array Value} {i : Nat} {v : Value} (hv : cs[i]? = some v) (w : World) : (part t cs i).run P w = .ok v w := by
  obtain ⟨k, hk⟩ := isIT_eq h
  unfold part
  rw [Sem.run_bind, run_ag hk, Result.andThen_ok]
  have : isAggT P t = false := by unfold isAggT; rw [hk]
  rw [this]
  simp [hv]
theorem run_eqT {t : TypeId} (h : eqT P t = true) (a b c d : Int) (w : World) : (Op.equalIn 10000 t (.agg ⟨[.int .i64 a, .int .i64 b]⟩) (.agg ⟨[.int .i64 c, .int .i64 d]⟩)).run P w = .ok (a == c && b == d) w := by
  unfold eqT at h
  simp only [Bool.and_eq_true] at h
  obtain ⟨⟨h1, h2⟩, _⟩ := h
  split at h1
  · rename_i fs hu
    split at h1
    · rename_i f g hfs
      simp only [Bool.and_eq_true, beq_iff_eq, bne_iff_ne, ne_eq] at h1
      obtain ⟨⟨⟨⟨⟨n1, n2⟩, o1⟩, o2⟩, t1⟩, t2⟩ := h1
      have hf : P.fieldsOf t = fs := by unfold Program.fieldsOf; rw [hu]
      obtain ⟨k1, e1⟩ := isIT_eq t1
      obtain ⟨k2, e2⟩ := isIT_eq t2
      have q1 : (Op.equalIn 9999 f.type (.int .i64 a) (.int .i64 c)).run P w = .ok (a == c) w := run_equalIn_int w 9998 _ .i64 _ _ _ e1
      have q2 : (Op.equalIn 9999 g.type (.int .i64 b) (.int .i64 d)).run P w = .ok (b == d) w := run_equalIn_int w 9998 _ .i64 _ _ _ e2
      have q0 := run_equalIn_agg w 9999 t ⟨[.int .i64 a, .int .i64 b]⟩ ⟨[.int .i64 c, .int .i64 d]⟩ (by rw [hf]; exact hu) (by simpa using h2)
      rw [hf, hfs] at q0
      refine q0.trans ?_
      have r1 := run_part_int t1 (cs := ⟨[.int .i64 a, .int .i64 b]⟩) (i := 0) (v := .int .i64 a) rfl
      have r2 := run_part_int t1 (cs := ⟨[.int .i64 c, .int .i64 d]⟩) (i := 0) (v := .int .i64 c) rfl
      have r3 := run_part_int t2 (cs := ⟨[.int .i64 a, .int .i64 b]⟩) (i := 1) (v := .int .i64 b) rfl
      have r4 := run_part_int t2 (cs := ⟨[.int .i64 c, .int .i64 d]⟩) (i := 1) (v := .int .i64 d) rfl
      simp only [Op.eqFields, if_pos n1, if_pos n2, o1, o2, Sem.run_bind, r1, r2, r3, r4, Result.andThen_ok, q1, Sem.run_ite, Sem.run_pure]
      cases hac : (a == c)
      · simp
      · simp only [Bool.not_true, Bool.false_eq_true, if_false, q2, Result.andThen_ok, Bool.true_and]
        cases hbd : (b == d) <;> simp
    · simp at h1
  · simp at h1
theorem aggV_ok {op : BinOp} {t : TypeId} {l m : List AV} {vs us : List Value} {ox oy : Operand} {K : AV → An} {r : AV × Hp} (gx : GRs E l vs) (gy : GRs E m us) (h : aggV P op t l m K = some r) :
    ∃ v rv, K v = some r ∧ (∀ w : World, ((do eqGuard op t ox oy (.agg ⟨vs⟩) (.agg ⟨us⟩); Go.binOp op t (.agg ⟨vs⟩) (.agg ⟨us⟩)) : Sem Value).run P w = .ok rv w) ∧ GR E v rv := by
  unfold aggV at h
  obtain ⟨p, h1, hp⟩ := Option.bind_eq_some_iff.1 h
  obtain ⟨q, h2, hq⟩ := Option.bind_eq_some_iff.1 hp
  clear h hp
  have e1 := twoI_eq h1
  have e2 := twoI_eq h2
  subst e1 e2
  obtain rfl := GRs_two gx
  obtain rfl := GRs_two gy
  rw [chk_eq] at hq
  cases he : eqT P t with
  | false => rw [he] at hq; simp at hq
  | true =>
    rw [he] at hq
    simp only [cond_true] at hq
    have hm : P.eqGuardType P.depth t = false := by
      unfold eqT at he
      simp only [Bool.and_eq_true] at he
      simpa using he.2
    have hg : ∀ (op : BinOp) (w : World), (eqGuard op t ox oy (.agg ⟨[.int .i64 p.1, .int .i64 p.2]⟩) (.agg ⟨[.int .i64 q.1, .int .i64 q.2]⟩)).run P w = .ok () w := fun op w => run_eqGuard_agg w op t ox oy _ _ hm
    split at hq
    · exact ⟨_, _, hq, fun w => by rw [Sem.run_bind, hg, Result.andThen_ok, run_eql_struct, run_eqT he, Result.andThen_ok], .bool _⟩
    · exact ⟨_, _, hq, fun w => by rw [Sem.run_bind, hg, Result.andThen_ok, run_neq_struct, run_eqT he, Result.andThen_ok], .bool _⟩
    · simp at hq
theorem binV_ok {op : BinOp} {t : TypeId} {x y : AV} {rx ry : Value} {ox oy : Operand} {K : AV → An} {r : AV × Hp} (hx : VR E la x rx) (hy : VR E la y ry) (h : binV P op t x y K = some r) :
    ∃ v rv, K v = some r ∧ (∀ w : World, ((do eqGuard op t ox oy rx ry; Go.binOp op t rx ry) : Sem Value).run P w = .ok rv w) ∧ GR E v rv := by
  unfold binV at h
  split at h
  · rename_i k x k' y
    obtain rfl := hx.int_inv
    obtain rfl := hy.int_inv
    have hg : ∀ w : World, (eqGuard op t ox oy (.int k x) (.int k' y)).run P w = .ok () w := by intro w; unfold eqGuard; cases op <;> rfl
    split at h
    · obtain ⟨v, rv, h1, h2, h3⟩ := shI_ok (P := P) (E := E) (k' := k') (t := t) (.inl rfl) h
      exact ⟨v, rv, h1, fun w => by rw [Sem.run_bind, hg]; exact h2 w, h3⟩
    · obtain ⟨v, rv, h1, h2, h3⟩ := shI_ok (P := P) (E := E) (k' := k') (t := t) (.inr rfl) h
      exact ⟨v, rv, h1, fun w => by rw [Sem.run_bind, hg]; exact h2 w, h3⟩
    · rename_i n1 n2
      split at h
      · rename_i hk
        subst hk
        obtain ⟨v, rv, h1, h2, h3⟩ := binI_ok (P := P) (E := E) (t := t) ⟨n1, n2⟩ h
        exact ⟨v, rv, h1, fun w => by rw [Sem.run_bind, hg]; exact h2 w, h3⟩
      · simp at h
  · rename_i x y
    obtain rfl := hx.bool_inv
    obtain rfl := hy.bool_inv
    split at h
    · rename_i hu
      have hg : ∀ w : World, (eqGuard op t ox oy (.bool x) (.bool y)).run P w = .ok () w := by intro w; unfold eqGuard; cases op <;> rfl
      split at h
      · exact ⟨_, _, h, fun w => by simp only [Sem.run_bind, hg, Result.andThen_ok, Go.binOp, run_equal_bool w t x y hu, Sem.run_pure], .bool _⟩
      · exact ⟨_, _, h, fun w => by simp only [Sem.run_bind, hg, Result.andThen_ok, Go.binOp, run_equal_bool w t x y hu, Sem.run_pure], .bool _⟩
      · simp at h
    · simp at h
  · rename_i sz y
    split at h
    · rename_i e hu
      cases hy with
      | g gy => cases gy
      | nl =>
        have key : ∀ (ao : Option Addr) (l c : Nat), ao.isNone = y.nil → rx = .slice ao l c → ∃ v rv, K v = some r ∧ (∀ w : World, ((do eqGuard op t ox oy rx (.slice none 0 0); Go.binOp op t rx (.slice none 0 0)) : Sem Value).run P w = .ok rv w) ∧ GR E v rv := by
          intro ao l c hn hrx
          subst hrx
          have hg : ∀ w : World, (eqGuard op t ox oy (.slice ao l c) (.slice none 0 0)).run P w = .ok () w := by intro w; unfold eqGuard; cases op <;> rfl
          split at h
          · exact ⟨_, _, h, fun w => by simp only [Sem.run_bind, hg, Result.andThen_ok, run_eql_slice_nil w t e ao l c hu, hn], .bool _⟩
          · exact ⟨_, _, h, fun w => by simp only [Sem.run_bind, hg, Result.andThen_ok, run_neq_slice_nil_any w t e ao l c 0 0 hu, hn], .bool _⟩
          · simp at h
        cases hx with
        | g gx =>
          cases gx with
          | slnil _ _ hn hl => exact key _ _ _ (by simp [hn]) rfl
          | slz _ _ b hn hl => exact key _ _ _ (by simp [hn]) rfl
          | sl _ _ cap hn hb hc hs => exact key _ _ _ (by simp [hn]) rfl
    · simp at h
  · obtain ⟨vs, rfl, gx⟩ := hx.agg_inv
    obtain ⟨us, rfl, gy⟩ := hy.agg_inv
    exact aggV_ok gx gy h
  · simp at h

theorem wrap_len {n : Nat} : True := trivial
theorem foldI_mx {E : En} : ∀ (l : List AV) (rl : List Value) (v : AV) (rv : Value) (u : AV), GR E v rv → (∀ (i : Nat) (x : AV), l[i]? = some x → ∃ rx, rl[i]? = some rx ∧ VR E la x rx) → rl.length = l.length → foldI mx v l = some u → ∃ ru, (∀ w : World, (rl.foldlM Builtin.max2 rv).run P w = .ok ru w) ∧ GR E u ru
  | [], rl, v, rv, u, hv, hl, hn, h => by
    have : rl = [] := List.eq_nil_of_length_eq_zero (by simpa using hn)
    subst this
    simp [foldI] at h; subst h
    exact ⟨rv, fun w => rfl, hv⟩
  | x :: l, [], v, rv, u, hv, hl, hn, h => by simp at hn
  | x :: l, rx :: rl, v, rv, u, hv, hl, hn, h => by
    cases v with
    | int k n =>
      cases x with
      | int k' m =>
        simp only [foldI] at h
        cases hv
        obtain ⟨rx', h1, h2⟩ := hl 0 _ rfl
        simp at h1; subst h1
        obtain rfl := h2.int_inv
        obtain ⟨ru, k1, k2⟩ := foldI_mx l rl _ (.int k (mx n m)) u (.int k _) (fun i y hy => by simpa using hl (i + 1) y (by simpa using hy)) (by simpa using hn) h
        exact ⟨ru, fun w => by simp only [List.foldlM_cons, Sem.run_bind, Builtin.max2, Sem.run_pure, Result.andThen_ok]; exact k1 w, k2⟩
      | _ => simp [foldI] at h
    | _ => simp [foldI] at h
theorem foldI_mn {E : En} : ∀ (l : List AV) (rl : List Value) (v : AV) (rv : Value) (u : AV), GR E v rv → (∀ (i : Nat) (x : AV), l[i]? = some x → ∃ rx, rl[i]? = some rx ∧ VR E la x rx) → rl.length = l.length → foldI mn v l = some u → ∃ ru, (∀ w : World, (rl.foldlM Builtin.min2 rv).run P w = .ok ru w) ∧ GR E u ru
  | [], rl, v, rv, u, hv, hl, hn, h => by
    have : rl = [] := List.eq_nil_of_length_eq_zero (by simpa using hn)
    subst this
    simp [foldI] at h; subst h
    exact ⟨rv, fun w => rfl, hv⟩
  | x :: l, [], v, rv, u, hv, hl, hn, h => by simp at hn
  | x :: l, rx :: rl, v, rv, u, hv, hl, hn, h => by
    cases v with
    | int k n =>
      cases x with
      | int k' m =>
        simp only [foldI] at h
        cases hv
        obtain ⟨rx', h1, h2⟩ := hl 0 _ rfl
        simp at h1; subst h1
        obtain rfl := h2.int_inv
        obtain ⟨ru, k1, k2⟩ := foldI_mn l rl _ (.int k (mn n m)) u (.int k _) (fun i y hy => by simpa using hl (i + 1) y (by simpa using hy)) (by simpa using hn) h
        exact ⟨ru, fun w => by simp only [List.foldlM_cons, Sem.run_bind, Builtin.min2, Sem.run_pure, Result.andThen_ok]; exact k1 w, k2⟩
      | _ => simp [foldI] at h
    | _ => simp [foldI] at h
end

end Go.Proofs.Ytoalafkpkllebaa.Ab
