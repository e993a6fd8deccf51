/- Each operation of the plain machine does what the program's does. No conditions. -/
import Derived.Test.YtoalafkpkllebaaAq
set_option linter.unusedVariables false
set_option linter.unusedSimpArgs false
namespace Go.Proofs.Ytoalafkpkllebaa.Ab
open Go

/-- A call of the plain machine tells of the program's. -/
def RecS (P : Program) (rec : Rec) : Prop := ∀ f args H v H', rec f args H = some (v, H') → ∀ E w (rargs : List Value), HR E H w → rargs.length = args.length → (∀ (i : Nat) u, args[i]? = some u → ∃ ru, rargs[i]? = some ru ∧ ∀ la, VR E la u ru) →
  Calls P f ⟨rargs⟩ w fun e w' => ∃ E' rv, e = .returned rv ∧ (∀ la, VR E' la v rv) ∧ HR E' H' w' ∧ Step E H w E' H' w'

section
variable {P : Program} {E0 : En} {H0 : Hp} {w0 : World} {E : En} {la : Nat → Nat} {s : St} {H : Hp} {a : Act} {w : World}
variable {O : Orc} {rec : Rec} {o : Oper} {K : AV → St → Hp → An} {r : AV × Hp} {next : Act → World → Prop} {Q : Exit → Act → World → Prop}

theorem VR.glob {v : AV} {rv : Value} (h : VR E la v rv) (hg : v.glob = true) (la' : Nat → Nat) : VR E la' v rv := by
  cases h with
  | g g => exact .g g
  | nl => exact .nl
  | lp t o => simp [AV.glob, AV.cell] at hg
  | ls sz t n => simp [AV.glob, AV.cell] at hg
  | agg g => exact .agg g
  | tup hl g => exact .tup hl g

/-- Behind a call. -/
theorem Inv.called (h : Inv E0 H0 w0 E la s H a w) {E' : En} {H' : Hp} {w' : World} (hr : HR E' H' w') (st : Step E H w E' H' w') : Inv E0 H0 w0 E' la s H' a w' := by
  have keep : ∀ {t : Nat} {m : List AV}, s.lo[t]? = some (some m) → w'.heap[la t]? = w.heap[la t]? := fun {t m} hm =>
    st.fr _ (by rw [h.hr.nr]; exact h.lr.lt hm) fun b x hb _ e => h.lr.sep t m b x hm hb e.symm
  refine ⟨hr, ⟨fun t m hm => ?_, fun t m b x hm hb => ?_, h.lr.inj⟩, h.tr.mono st.le, h.st.trans st, h.df⟩
  · obtain ⟨c, e, k1, k2, k3, k4⟩ := h.lr.live t m hm
    exact ⟨c, e, (keep hm).trans k1, k2, (st.le.si _ (by rw [h.hr.nr]; exact h.lr.lt hm)).trans k3, k4.mono st.le⟩
  · cases hro : x.ro with
    | true =>
      obtain ⟨h1, h2⟩ := st.roo b x hb hro
      rw [st.le.be b h1]
      exact h.lr.sep t m b x hm h2
    | false =>
      by_cases hlt : E'.be b < E.nr
      · obtain ⟨b0, x0, h1, _, h3⟩ := st.own b x hb hro hlt
        rw [← h3]
        exact h.lr.sep t m b0 x0 hm h1
      · have := h.lr.lt hm
        rw [← h.hr.nr] at this
        omega

theorem callV_ok (hn : P.funcs.all (fun fn => !(fn.name == "runtime.NumGoroutine")) = true) (hrec : RecS P rec) {ty : TypeId} {f : FuncId} {args : List AV} (hi : Inv E0 H0 w0 E la s H a w) (h : callV P rec ty f args s H K = some r) (rargs : List Value)
    (hl : rargs.length = args.length) (ha : ∀ (i : Nat) u, args[i]? = some u → ∃ ru, rargs[i]? = some ru ∧ VR E la u ru)
    (hr : (execOp a.eval o).run P w = (callFunc f ⟨rargs⟩).run P w) (hK : Nx E0 H0 w0 K r o a next) : o.wp P a w next Q := by
  unfold callV at h
  cases hb : (okF P f && args.all AV.glob) with
  | false => simp [hb] at h
  | true =>
    simp only [hb, cond_true] at h
    rw [Bool.and_eq_true] at hb
    obtain ⟨hok, hgl⟩ := hb
    unfold okF at hok
    split at hok
    · rename_i fn hf
      obtain ⟨⟨v, H'⟩, h1, h2⟩ := Option.bind_eq_some_iff.1 h
      have hname : (fn.name == "runtime.NumGoroutine") = false := by
        have := Array.all_eq_true_iff_forall_mem.1 hn fn (Array.mem_of_getElem? hf)
        simpa using this
      have hcf : (callFunc f ⟨rargs⟩).run P w = .ok (.enter f ⟨rargs⟩) w := by
        obtain ⟨c, hc⟩ := Option.isSome_iff_exists.1 hok
        have hname' : ¬ fn.name = "runtime.NumGoroutine" := by simpa using hname
        simp [callFunc, hf, hname', hc]
      have hc := hrec f args H v H' h1 E w rargs hi.hr hl fun i u hu => by
        obtain ⟨ru, k1, k2⟩ := ha i u hu
        exact ⟨ru, k1, fun la' => k2.glob (List.all_eq_true.1 hgl u (List.mem_of_getElem? hu)) la'⟩
      unfold Oper.wp
      rw [hr, hcf]
      refine Calls.mono hc fun e w' he => ?_
      obtain ⟨E', rv, rfl, k1, k2, k3⟩ := he
      have hi' := hi.called k2 k3
      rcases nR_eq h2 with h2 | h2
      · exact hK _ _ _ _ _ _ _ h2 hi' (k1 la)
      · exact hK _ _ _ _ _ _ _ h2 hi' (.undef _)
    · simp at hok

/-- The operands, one by one. -/
theorem evs (hi : Inv E0 H0 w0 E la s H a w) (l : List Operand) : (l.map a.eval).length = (l.map s.ev).length ∧ ∀ (i : Nat) u, (l.map s.ev)[i]? = some u → ∃ ru, (l.map a.eval)[i]? = some ru ∧ VR E la u ru := by
  refine ⟨by simp, fun i u hu => ?_⟩
  simp only [List.getElem?_map, Option.map_eq_some_iff] at hu ⊢
  obtain ⟨x, h1, h2⟩ := hu
  subst h2
  exact ⟨a.eval x, ⟨x, h1, rfl⟩, hi.ev x⟩

theorem info_pos {t : TypeId} (h : 0 < szOf P t) : ∃ j, P.info? t = some j := by
  cases hj : P.info? t with
  | none => simp [szOf, hj] at h
  | some j => exact ⟨j, rfl⟩
theorem op_move {x : Operand} (ho : o.op = .move x ∨ o.op = .assign x) (hi : Inv E0 H0 w0 E la s H a w) (h : K (fixN P o.type (s.ev x)) s H = some r) (hK : Nx E0 H0 w0 K r o a next) : o.wp P a w next Q := by
  refine wp_val (rv := a.eval x) (w' := w) ?_ (hK _ _ _ _ _ _ _ h hi (fixN_vr _ (hi.ev x)))
  rcases ho with ho | ho <;> simp [execOp, ho]

theorem op_pick {c x y : Operand} (ho : o.op = .pick c x y) (hi : Inv E0 H0 w0 E la s H a w) (h : exOp P O rec o s H K = some r) (hK : Nx E0 H0 w0 K r o a next) : o.wp P a w next Q := by
  simp only [exOp, ho] at h
  have hc := hi.ev c
  split at h
  · rename_i t ht
    rw [ht] at hc
    have hct := hc.bool_inv
    have hrun : (execOp a.eval o).run P w = .ok (.value (if t then a.eval x else a.eval y)) w := by simp [execOp, ho, hct, asBool]
    have hx := hi.ev x
    have hy := hi.ev y
    split at h
    · rename_i p q hp hq
      rw [hp] at hx
      rw [hq] at hy
      refine wp_val hrun (hK _ _ _ _ _ _ _ h hi ?_)
      cases t
      · simpa using hy
      · simpa using hx
    · cases t
      · exact wp_val hrun (hK _ _ _ _ _ _ _ h hi (by simpa using hy))
      · exact wp_val hrun (hK _ _ _ _ _ _ _ h hi (by simpa using hx))
  · simp at h

theorem op_alloc {t : TypeId} (ho : o.op = .alloc t) (hi : Inv E0 H0 w0 E la s H a w) (h : exOp P O rec o s H K = some r) (hK : Nx E0 H0 w0 K r o a next) : o.wp P a w next Q := by
  simp only [exOp, ho] at h
  obtain ⟨l, h1, h2⟩ := Option.bind_eq_some_iff.1 h
  obtain ⟨i, z, hin, hz, hs, hg, hc⟩ := zc_ok (E := E) h1
  refine wp_val ?_ (newMem_ok hi h2 z.cells t hg (rg := fun b => .pointer (some ⟨b, 0, none⟩)) (fun E' b hb _ => .ptr b 0 hb) (fun E' la' t => .lp t 0) hK)
  simp [execOp, ho, Instr.alloc, zeroValue, typeInfo, hin, hz, newVar, newRow]

theorem op_box {t : TypeId} {x : Operand} (ho : o.op = .box t x) (hi : Inv E0 H0 w0 E la s H a w) (h : exOp P O rec o s H K = some r) (hK : Nx E0 H0 w0 K r o a next) : o.wp P a w next Q := by
  simp only [exOp, ho] at h
  have hx := fixN_vr (P := P) t (hi.ev x)
  cases hall : (fixN P t (s.ev x)).cells.all AV.cell with
  | false => simp [newMem, hall] at h
  | true =>
    refine wp_val ?_ (newMem_ok hi h (a.eval x).cells t (hx.cells hall).1 (rg := fun b => .pointer (some ⟨b, 0, none⟩)) (fun E' b hb _ => .ptr b 0 hb) (fun E' la' t => .lp t 0) hK)
    simp [execOp, ho, Instr.box, newVar, newRow]

theorem op_load {t : TypeId} {x : Operand} (ho : o.op = .load t x) (hi : Inv E0 H0 w0 E la s H a w) (h : exOp P O rec o s H K = some r) (hK : Nx E0 H0 w0 K r o a next) : o.wp P a w next Q := by
  simp only [exOp, ho] at h
  obtain ⟨v, rv, h1, h2, h3⟩ := load_ok (P := P) (K := fun v => K v s H) (r := r) (t := t) hi (hi.ev x) h
  exact wp_val (by simp [execOp, ho, h2]) (hK _ _ _ _ _ _ _ h1 hi h3)

theorem op_store {t : TypeId} {x y : Operand} (ho : o.op = .store t x y) (hi : Inv E0 H0 w0 E la s H a w) (h : exOp P O rec o s H K = some r) (hK : Nx E0 H0 w0 K r o a next) : o.wp P a w next Q := by
  simp only [exOp, ho] at h
  obtain ⟨s', H', w', h1, h2, h3⟩ := store_ok (P := P) (K := fun s H => K .undef s H) (r := r) (t := t) hi (hi.ev x) (fixN_vr t (hi.ev y)) h
  exact wp_skp (by simp [execOp, ho, h2]) (hK _ _ _ _ _ _ _ h1 h3 (.undef _))

theorem op_nilCheck {x : Operand} (ho : o.op = .nilCheck x) (hi : Inv E0 H0 w0 E la s H a w) (h : exOp P O rec o s H K = some r) (hK : Nx E0 H0 w0 K r o a next) : o.wp P a w next Q := by
  simp only [exOp, ho] at h
  have hx := hi.ev x
  split at h
  · rename_i b p hp
    rw [hp] at hx
    refine wp_val (rv := a.eval x) (w' := w) ?_ (hK _ _ _ _ _ _ _ h hi hx)
    simp [execOp, ho, hx.ptr_inv.2]
  · rename_i b p hp
    rw [hp] at hx
    refine wp_val (rv := a.eval x) (w' := w) ?_ (hK _ _ _ _ _ _ _ h hi hx)
    simp [execOp, ho, hx.lp_inv]
  · simp at h

theorem op_bin {op : BinOp} {t ty : TypeId} {x y : Operand} (ho : o.op = .binOp op t x y ty) (hi : Inv E0 H0 w0 E la s H a w) (h : exOp P O rec o s H K = some r) (hK : Nx E0 H0 w0 K r o a next) : o.wp P a w next Q := by
  simp only [exOp, ho] at h
  obtain ⟨v, rv, h1, h2, h3⟩ := binV_ok (P := P) (ox := x) (oy := y) (hi.ev x) (hi.ev y) h
  exact wp_val (by simp only [execOp, ho, Sem.run_bind, h2, Result.andThen_ok, Sem.run_pure]) (hK _ _ _ _ _ _ _ h1 hi (.g h3))

theorem op_un {op : UnOp} {t : TypeId} {x : Operand} (ho : o.op = .unOp op t x) (hi : Inv E0 H0 w0 E la s H a w) (h : exOp P O rec o s H K = some r) (hK : Nx E0 H0 w0 K r o a next) : o.wp P a w next Q := by
  simp only [exOp, ho] at h
  have hx := hi.ev x
  split at h
  · rename_i b hb
    rw [hb] at hx
    exact wp_val (by simp [execOp, ho, Op.unary, hx.bool_inv]) (hK _ _ _ _ _ _ _ h hi (.g (.bool _)))
  · rename_i k n hb
    rw [hb] at hx
    exact wp_val (by simp [execOp, ho, Op.unary, hx.int_inv, Op.intArith]) (hK _ _ _ _ _ _ _ h hi (.g (.int _ _)))
  · simp at h

theorem op_convert {t u : TypeId} {x : Operand} (ho : o.op = .convert t u x) (hi : Inv E0 H0 w0 E la s H a w) (h : exOp P O rec o s H K = some r) (hK : Nx E0 H0 w0 K r o a next) : o.wp P a w next Q := by
  simp only [exOp, ho] at h
  have hx := hi.ev x
  split at h
  · rename_i d k k' n h1 h2 h3
    rw [h3] at hx
    refine wp_val (rv := .int k (k.wrap n)) (w' := w) ?_ (hK _ _ _ _ _ _ _ h hi (.g (.int _ _)))
    simp only [execOp, ho, convert, Sem.run_bind, run_underlying h1, run_underlying h2, Result.andThen_ok, hx.int_inv]
    rfl
  · simp at h

theorem op_makeFunc {fn : Fn} {first captured : Array Operand} (ho : o.op = .makeFunc fn first captured) (hi : Inv E0 H0 w0 E la s H a w) (h : exOp P O rec o s H K = some r) (hK : Nx E0 H0 w0 K r o a next) : o.wp P a w next Q := by
  cases fn with
  | func f =>
    simp only [exOp, ho] at h
    split at h
    · rename_i hf
      subst hf
      cases hall : (captured.toList.map s.ev).all AV.cell with
      | false => simp [hall] at h
      | true =>
        simp only [hall, cond_true] at h
        obtain ⟨hl, he⟩ := evs hi captured.toList
        have hg : GRs E (captured.toList.map s.ev) (captured.toList.map a.eval) := GRs.of_get _ _ hl fun i v hv => by
          obtain ⟨ru, k1, k2⟩ := he i v hv
          exact ⟨ru, k1, k2.cellOf (List.all_eq_true.1 hall v (List.mem_of_getElem? hv))⟩
        refine wp_val (w' := w) ?_ (hK _ _ _ _ _ _ _ h hi (.g (.fn f _ _ hg)))
        have e1 : captured.map a.eval = ⟨captured.toList.map a.eval⟩ := by apply Array.ext'; simp
        simp [execOp, ho, Instr.makeFunc, e1]
    · simp at h
  | _ => simp [exOp, ho] at h

theorem op_fieldAddr {t : TypeId} {x : Operand} {i : Nat} (ho : o.op = .fieldAddr t x i) (hi : Inv E0 H0 w0 E la s H a w) (h : exOp P O rec o s H K = some r) (hK : Nx E0 H0 w0 K r o a next) : o.wp P a w next Q := by
  simp only [exOp, ho] at h
  obtain ⟨fs, hfs, h⟩ := Option.bind_eq_some_iff.1 h
  obtain ⟨f, hf, h⟩ := Option.bind_eq_some_iff.1 h
  have hu : P.underlying t = some (.struct fs) := by
    unfold fields at hfs
    split at hfs
    · simp at hfs; subst hfs; assumption
    · simp at hfs
  split at h
  · simp at h
  · rename_i hne
    have hinf : ∃ j, P.info? f.type = some j := by
      cases hj : P.info? f.type with
      | none => simp [szOf, hj] at hne
      | some j => exact ⟨j, rfl⟩
    obtain ⟨j, hj⟩ := hinf
    have hx := hi.ev x
    have key : ∀ (b p : Nat), a.eval x = .pointer (some ⟨b, p, none⟩) → (execOp a.eval o).run P w = .ok (.value (.pointer (some ⟨b, p + f.offset, none⟩))) w := by
      intro b p hb
      simp [execOp, ho, Instr.fieldAt, run_underlying hu, hf, hb, Instr.sureAddr, fieldPlace, run_sz hj, hne, Addr.add_mid]
    split at h
    · rename_i b p hp
      rw [hp] at hx
      obtain ⟨hb, he⟩ := hx.ptr_inv
      exact wp_val (key _ _ he) (hK _ _ _ _ _ _ _ h hi (.g (.ptr b _ hb)))
    · rename_i y p hp
      rw [hp] at hx
      exact wp_val (key _ _ hx.lp_inv) (hK _ _ _ _ _ _ _ h hi (.lp y _))
    · simp at h

theorem op_field {t : TypeId} {x : Operand} {i : Nat} (ho : o.op = .field t x i) (hi : Inv E0 H0 w0 E la s H a w) (h : exOp P O rec o s H K = some r) (hK : Nx E0 H0 w0 K r o a next) : o.wp P a w next Q := by
  simp only [exOp, ho] at h
  obtain ⟨fs, hfs, h⟩ := Option.bind_eq_some_iff.1 h
  obtain ⟨f, hf, h⟩ := Option.bind_eq_some_iff.1 h
  have hu : P.underlying t = some (.struct fs) := by
    unfold fields at hfs
    split at hfs
    · simp at hfs; subst hfs; assumption
    · simp at hfs
  have hx := hi.ev x
  split at h
  · rename_i l hl
    rw [hl] at hx
    obtain ⟨vs, he, hg⟩ := hx.agg_inv
    cases hd : P.underlying f.type with
    | none => simp [hd] at h
    | some d =>
      simp only [hd] at h
      obtain ⟨j, hj, _⟩ := info_of hd
      cases hag : isAggT P f.type with
      | true =>
        simp only [hag, cond_true] at h
        refine wp_val (w' := w) (rv := .agg ⟨(vs.drop f.offset).take (szOf P f.type)⟩) ?_ (hK _ _ _ _ _ _ _ h hi (.agg ((hg.drop _).take _)))
        simp [execOp, ho, Instr.field, run_underlying hu, hf, he, asAgg, part, run_ag hd, hag, run_sz hj]
      | false =>
        simp only [hag, cond_false] at h
        obtain ⟨v, hv, h⟩ := Option.bind_eq_some_iff.1 h
        obtain ⟨rv, k1, k2⟩ := hg.get _ v hv
        cases hvc : v.cell with
        | false => simp [hvc] at h
        | true =>
        simp only [hvc, cond_true] at h
        refine wp_val (w' := w) (rv := rv) ?_ (hK _ _ _ _ _ _ _ h hi (.g k2))
        simp [execOp, ho, Instr.field, run_underlying hu, hf, he, asAgg, part, run_ag hd, hag, k1]
  · simp at h

theorem op_extract {x : Operand} {i : Nat} (ho : o.op = .extract x i) (hi : Inv E0 H0 w0 E la s H a w) (h : exOp P O rec o s H K = some r) (hK : Nx E0 H0 w0 K r o a next) : o.wp P a w next Q := by
  simp only [exOp, ho] at h
  have hx := hi.ev x
  split at h
  · rename_i l hl
    obtain ⟨v, hv, h⟩ := Option.bind_eq_some_iff.1 h
    have h : K v s H = some r := by cases hg : v.glob <;> simp [hg] at h; exact h
    rw [hl] at hx
    cases he : a.eval x with
    | tuple vs =>
      rw [he] at hx
      cases hx with
      | g g => cases g
      | tup hl g =>
        rename_i vs'
        obtain ⟨rv, k1, k2⟩ := g i v hv
        refine wp_val (w' := w) (rv := rv) ?_ (hK _ _ _ _ _ _ _ h hi ?_)
        · simp [execOp, ho, Instr.extract, he, k1]
        · rcases k2 with k2 | ⟨m, ms, e1, e2, k2⟩
          · exact .g k2
          · subst e1; subst e2; exact .agg k2
    | _ => rw [he] at hx; cases hx; (rename_i g; cases g)
  · simp at h

theorem op_indexAddr {t : TypeId} {x y : Operand} (ho : o.op = .indexAddr t x y) (hi : Inv E0 H0 w0 E la s H a w) (h : exOp P O rec o s H K = some r) (hK : Nx E0 H0 w0 K r o a next) : o.wp P a w next Q := by
  simp only [exOp, ho] at h
  have hx := hi.ev x
  have hy := hi.ev y
  split at h
  · rename_i e sz z k n hu hxe hye
    rw [hxe] at hx
    rw [hye] at hy
    have hyi := hy.int_inv
    split at h
    · rename_i hsz
      cases hb : (decide (0 ≤ n) && decide (n < (z.len : Int))) with
      | false => simp [hb] at h
      | true =>
        simp only [hb, cond_true] at h
        rw [Bool.and_eq_true, decide_eq_true_eq, decide_eq_true_eq] at hb
        cases hg : a.eval x with
        | slice ad l c =>
          have hxs := hx.sl_inv
          rw [hg] at hxs
          cases hxs with
          | slnil _ _ h1 h2 => omega
          | slz _ _ b h1 h2 => omega
          | sl _ _ cap h1 h2 h3 h4 =>
            obtain ⟨j, hj⟩ := info_pos hsz.2
            refine wp_val (w' := w) ?_ (hK _ _ _ _ _ _ _ h hi (.g (.ptr z.blk _ h2)))
            simp [execOp, ho, Instr.indexAt, hyi, asIntOf, hg, run_underlying hu, hb.1, hb.2, run_sz hj, Addr.add_mid, hsz.1]
        | _ => rw [hg] at hx; cases hx.sl_inv
    · simp at h
  · rename_i e sz y' m k n hu hxe hye
    rw [hxe] at hx
    rw [hye] at hy
    have hyi := hy.int_inv
    have hxl := hx.ls_inv
    split at h
    · rename_i hsz
      cases hb : (decide (0 ≤ n) && decide (n < (m : Int))) with
      | false => simp [hb] at h
      | true =>
        simp only [hb, cond_true] at h
        rw [Bool.and_eq_true, decide_eq_true_eq, decide_eq_true_eq] at hb
        obtain ⟨j, hj⟩ := info_pos hsz.2
        have hv := VR.lp (E := E) (la := la) y' (n.toNat * sz)
        refine wp_val (w' := w) ?_ (hK _ _ _ _ _ _ _ h hi hv)
        simp [execOp, ho, Instr.indexAt, hyi, asIntOf, hxl, run_underlying hu, hb.1, hb.2, run_sz hj, Addr.add_mid, hsz.1]
    · simp at h
  · rename_i m e b p k n hu hxe hye
    rw [hxe] at hx
    rw [hye] at hy
    have hyi := hy.int_inv
    obtain ⟨hlt, he⟩ := hx.ptr_inv
    split at h
    case isFalse => simp at h
    rename_i hpos
    cases hb : (decide (0 ≤ n) && decide (n < (m : Int))) with
    | false => simp [hb] at h
    | true =>
      simp only [hb, cond_true] at h
      rw [Bool.and_eq_true, decide_eq_true_eq, decide_eq_true_eq] at hb
      obtain ⟨j, hj⟩ := info_pos hpos
      refine wp_val (w' := w) ?_ (hK _ _ _ _ _ _ _ h hi (.g (.ptr b _ hlt)))
      simp [execOp, ho, Instr.indexAt, hyi, asIntOf, he, Instr.sureAddr, run_underlying hu, hb.1, hb.2, run_sz hj, Addr.add_mid]
  · simp at h
end

end Go.Proofs.Ytoalafkpkllebaa.Ab
