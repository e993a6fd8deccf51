/- Operations of the plain machine that may run sooner or later. No conditions. -/
import Derived.Test.YtoalafkpkllebaaAb
set_option linter.unusedVariables false
set_option linter.unusedSimpArgs false
namespace Go.Proofs.Ytoalafkpkllebaa.Ab
open Go

/-- A new variable of the call. -/
def St.app (s : St) (c : Option (Nat × List AV)) : St :=
  match c with
  | some (d, l) => s.setLo d (some l)
  | none => s
/-- What a light operation reads in the heap is the same. -/
def LdS (P : Program) (o : Oper) (s : St) (H H' : Hp) : Prop := ∀ t a b p, o.op = .load t a → s.ev a = .ptr b p → ∀ j, j < szOf P t → H'.cell b (p + j) = H.cell b (p + j)
def FrS (c : Option (Nat × List AV)) (s : St) : Prop := ∀ d l, c = some (d, l) → s.fresh d = true ∧ d < s.lo.length

section
variable {P : Program} {O : Orc} {rec : Rec} {o : Oper} {s : St} {H : Hp} {K : AV → St → Hp → An} {r : AV × Hp}

/-- A light operation has run; it can run again wherever its operands are the same. -/
def Lt (P : Program) (O : Orc) (rec : Rec) (o : Oper) (s : St) (H : Hp) (K : AV → St → Hp → An) (r : AV × Hp) : Prop :=
  ∃ v c, K v (s.app c) H = some r ∧ (∀ d l, c = some (d, l) → o.dst = some d ∧ s.fresh d = true ∧ d < s.lo.length) ∧ (∀ t, v.key = some t → t ∈ opKeys o s ∨ ∃ l, c = some (t, l)) ∧
    ∀ s' H' K', (∀ x ∈ o.op.operands.toList, s'.ev x = s.ev x) → (∀ t ∈ opKeys o s, s'.getLo t = s.getLo t) → LdS P o s H H' → FrS c s' → exOp P O rec o s' H' K' = K' v (s'.app c) H'

theorem Lt.plain (v : AV) (h : K v s H = some r) (hk : ∀ t, v.key = some t → t ∈ opKeys o s) (hs : ∀ s' H' K', (∀ x ∈ o.op.operands.toList, s'.ev x = s.ev x) → exOp P O rec o s' H' K' = K' v s' H') : Lt P O rec o s H K r :=
  ⟨v, none, h, fun d l e => (by cases e), fun t ht => .inl (hk t ht), fun s' H' K' h1 _ _ _ => hs s' H' K' h1⟩

theorem key_mem {x : Operand} {t : Nat} (hx : x ∈ o.op.operands.toList) (h : (s.ev x).key = some t) : t ∈ opKeys o s :=
  List.mem_filterMap.2 ⟨x, hx, h⟩
theorem fixN_key {t : TypeId} {v : AV} {k : Nat} (h : (fixN P t v).key = some k) : v.key = some k := by
  unfold fixN at h
  split at h
  · split at h <;> simp [AV.key] at h
  · exact h

theorem binI_val {op : BinOp} {k : IntKind} {x y : Int} {K : AV → An} (h : binI op k x y K = some r) : ∃ v, K v = some r ∧ v.key = none ∧ ∀ K', binI op k x y K' = K' v := by
  cases op <;> simp only [binI] at h <;> first
    | exact ⟨_, h, rfl, fun K' => rfl⟩
    | (split at h
       · simp at h
       · rename_i hy
         exact ⟨_, h, rfl, fun K' => by simp only [binI]; rw [if_neg hy]⟩)
    | simp at h
theorem shI_val {op : BinOp} {k : IntKind} {x y : Int} {K : AV → An} (h : shI op k x y K = some r) : ∃ v, K v = some r ∧ v.key = none ∧ ∀ K', shI op k x y K' = K' v := by
  unfold shI at h
  split at h
  · simp at h
  · rename_i hy
    split at h
    · exact ⟨_, h, rfl, fun K' => by unfold shI; rw [if_neg hy]⟩
    · exact ⟨_, h, rfl, fun K' => by unfold shI; rw [if_neg hy]⟩
    · simp at h
theorem aggV_val {op : BinOp} {t : TypeId} {l m : List AV} {K : AV → An} (h : aggV P op t l m K = some r) : ∃ v, K v = some r ∧ v.key = none ∧ ∀ K', aggV P op t l m K' = K' v := by
  unfold aggV at h ⊢
  obtain ⟨p, h1, h⟩ := Option.bind_eq_some_iff.1 h
  obtain ⟨q, h2, h⟩ := Option.bind_eq_some_iff.1 h
  rw [chk_eq] at h
  cases he : eqT P t with
  | false => rw [he] at h; simp at h
  | true =>
    rw [he] at h
    simp only [cond_true] at h
    split at h
    · exact ⟨_, h, rfl, fun K' => by simp only [h1, h2, Option.bind_some, chk_eq, cond_true]⟩
    · exact ⟨_, h, rfl, fun K' => by simp only [h1, h2, Option.bind_some, chk_eq, cond_true]⟩
    · simp at h
theorem binV_val {op : BinOp} {t : TypeId} {x y : AV} {K : AV → An} (h : binV P op t x y K = some r) : ∃ v, K v = some r ∧ v.key = none ∧ ∀ K', binV P op t x y K' = K' v := by
  unfold binV at h ⊢
  split at h
  · split at h
    · exact shI_val h
    · exact shI_val h
    · split at h
      · rename_i hk
        obtain ⟨v, h1, h2, h3⟩ := binI_val h
        exact ⟨v, h1, h2, fun K' => by simp only [if_pos hk]; exact h3 K'⟩
      · simp at h
  · split at h
    · rename_i hu
      split at h
      · exact ⟨_, h, rfl, fun K' => by simp only [hu]⟩
      · exact ⟨_, h, rfl, fun K' => by simp only [hu]⟩
      · simp at h
    · simp at h
  · split at h
    · rename_i e hu
      split at h
      · exact ⟨_, h, rfl, fun K' => by simp only [hu]⟩
      · exact ⟨_, h, rfl, fun K' => by simp only [hu]⟩
      · simp at h
    · simp at h
  · exact aggV_val h
  · simp at h
theorem nK_val {c : CK} {v : AV} {K : AV → An} (h : nK c v K = some r) : K v = some r ∧ v.key = none ∧ ∀ K', nK c v K' = K' v := by
  cases c <;> simp only [nK] at h ⊢ <;> obtain ⟨x, h1, h2⟩ := Option.bind_eq_some_iff.1 h
  · cases v <;> simp [AV.toI] at h1
    obtain ⟨rfl, rfl⟩ := h1
    exact ⟨h2, rfl, fun K' => by simp [AV.toI]⟩
  · cases v <;> simp [AV.toB] at h1
    subst h1
    exact ⟨h2, rfl, fun K' => by simp [AV.toB]⟩
  · cases v <;> simp [AV.toS] at h1
    obtain ⟨rfl, rfl⟩ := h1
    exact ⟨h2, rfl, fun K' => by simp [AV.toS]⟩
  · cases v <;> simp [AV.toP] at h1
    subst h1
    exact ⟨h2, rfl, fun K' => by simp [AV.toP]⟩
  · cases v <;> simp [AV.toF] at h1
    subst h1
    exact ⟨h2, rfl, fun K' => by simp [AV.toF]⟩
theorem ldK_eq (c : CK) (H : Hp) (b o : Nat) (K : AV → An) : ldK c H b o K = (H.cell b o).bind fun v => nK c v K := by
  cases c <;> simp [ldK, nK, ldI, ldB, ldS, ldP, ldF, Option.bind_assoc]
theorem ldKs_val : ∀ {cs : List CK} {b o : Nat} {K : List AV → An}, ldKs cs H b o K = some r → ∃ l, K l = some r ∧ ∀ H' K', (∀ j, j < cs.length → H'.cell b (o + j) = H.cell b (o + j)) → ldKs cs H' b o K' = K' l
  | [], b, o, K, h => ⟨[], h, fun H' K' _ => rfl⟩
  | c :: cs, b, o, K, h => by
    simp only [ldKs, ldK_eq] at h
    obtain ⟨v, h1, h2⟩ := Option.bind_eq_some_iff.1 h
    obtain ⟨h3, _, h4⟩ := nK_val h2
    obtain ⟨l, h5, h6⟩ := ldKs_val h3
    refine ⟨v :: l, h5, fun H' K' hc => ?_⟩
    have h0 := hc 0 (by simp)
    simp only [Nat.add_zero] at h0
    simp only [ldKs, ldK_eq, h0, h1, Option.bind_some, h4]
    exact h6 H' _ fun j hj => by
      have := hc (j + 1) (by simp; omega)
      rwa [show o + (j + 1) = o + 1 + j by omega] at this
theorem foldI_key {f : Int → Int → Int} : ∀ {l : List AV} {k : IntKind} {n : Int} {u : AV}, foldI f (.int k n) l = some u → u.key = none
  | [], k, n, u, h => by simp [foldI] at h; subst h; rfl
  | x :: l, k, n, u, h => by
    cases x <;> simp [foldI] at h
    exact foldI_key h
theorem lay_congr {α : Type} (g g' : α → AV) (f : Nat → Option (Nat × Nat)) (l : List AV) (ps : List (Nat × α)) (h : ∀ p ∈ ps, g' p.2 = g p.2) : (ps.map fun p => (p.1, g' p.2)) = ps.map fun p => (p.1, g p.2) :=
  List.map_congr_left fun p hp => by rw [h p hp]

/-- A slice's bounds. -/
theorem sliK_val {a : Option Operand} {d : Int} {K : Int → An} (h : sliK s a d K = some r) : ∃ n, K n = some r ∧ ∀ s' K', (∀ x, a = some x → s'.ev x = s.ev x) → sliK s' a d K' = K' n := by
  unfold sliK at h ⊢
  split at h
  · exact ⟨d, h, fun s' K' _ => rfl⟩
  · rename_i x
    split at h
    · rename_i n hn
      exact ⟨n, h, fun s' K' hx => by simp only [hx x rfl, hn]⟩
    · simp at h

theorem newMem_val {cells : List AV} {g l : Nat → AV} {hx : Nat → AV} (hg : inHeap O o.dst = false) (h : newMem O o s H cells g l K = some r) (hl : ∀ d, (l d).key = some d) :
    ∃ d, o.dst = some d ∧ (s.fresh d = true ∧ d < s.lo.length) ∧ K (l d) (s.setLo d (some cells)) H = some r ∧ ∀ s' H' K', s'.fresh d = true → d < s'.lo.length → newMem O o s' H' cells g l K' = K' (l d) (s'.setLo d (some cells)) H' := by
  unfold newMem at h
  cases hall : cells.all AV.cell with
  | false => simp [hall] at h
  | true =>
    simp only [hall, cond_true] at h
    split at h
    · rename_i d hd
      have hb : O.glob.testBit d = false := by simpa [inHeap, hd] using hg
      simp only [hb, cond_false] at h
      cases hf : (s.fresh d && decide (d < s.lo.length)) with
      | false => simp [hf] at h
      | true =>
        simp only [hf, cond_true] at h
        rw [Bool.and_eq_true] at hf
        refine ⟨d, hd, ⟨hf.1, by simpa using hf.2⟩, h, fun s' H' K' h1 h2 => ?_⟩
        unfold newMem
        simp only [hall, cond_true, hd, hb, cond_false, h1, Bool.true_and, decide_eq_true h2]
    · simp at h

theorem lt_ok (hl : light O o = true) (h : exOp P O rec o s H K = some r) : Lt P O rec o s H K r := by
  cases ho : o.op with
  | move x =>
    simp only [exOp, ho] at h
    refine Lt.plain _ h (fun t ht => key_mem (x := x) (by simp [ho, Op.operands]) (fixN_key ht)) fun s' H' K' hx => ?_
    simp only [exOp, ho, hx x (by simp [ho, Op.operands])]
  | assign x =>
    simp only [exOp, ho] at h
    refine Lt.plain _ h (fun t ht => key_mem (x := x) (by simp [ho, Op.operands]) (fixN_key ht)) fun s' H' K' hx => ?_
    simp only [exOp, ho, hx x (by simp [ho, Op.operands])]
  | pick c x y =>
    simp only [exOp, ho] at h
    have m1 : c ∈ o.op.operands.toList := by simp [ho, Op.operands]
    have m2 : x ∈ o.op.operands.toList := by simp [ho, Op.operands]
    have m3 : y ∈ o.op.operands.toList := by simp [ho, Op.operands]
    split at h
    · rename_i t ht
      split at h
      · rename_i p q hp hq
        refine Lt.plain _ h (fun t ht => by simp [AV.key] at ht) fun s' H' K' hx => ?_
        simp only [exOp, ho, hx c m1, hx x m2, hx y m3, ht, hp, hq]
      · rename_i hno
        cases t with
        | true =>
          refine Lt.plain _ h (fun t ht => key_mem m2 ht) fun s' H' K' hx => ?_
          simp only [exOp, ho, hx c m1, hx x m2, hx y m3, ht, cond_true]
        | false =>
          refine Lt.plain _ h (fun t ht => key_mem m3 ht) fun s' H' K' hx => ?_
          simp only [exOp, ho, hx c m1, hx x m2, hx y m3, ht, cond_false]
    · simp at h
  | alloc t =>
    simp only [exOp, ho] at h
    obtain ⟨l, h1, h2⟩ := Option.bind_eq_some_iff.1 h
    have hg : inHeap O o.dst = false := by simpa [light, ho] using hl
    obtain ⟨d, k1, k2, k3, k4⟩ := newMem_val (hx := fun _ => .undef) hg h2 (fun d => rfl)
    refine ⟨_, some (d, l), k3, fun d' l' e => by simp only [Option.some.injEq, Prod.mk.injEq] at e; rw [← e.1]; exact ⟨k1, k2⟩, fun t ht => .inr ⟨l, by simp [AV.key] at ht; rw [ht]⟩, fun s' H' K' _ _ _ hf => ?_⟩
    obtain ⟨f1, f2⟩ := hf d l rfl
    simp only [exOp, ho, h1, Option.bind_some]
    exact k4 s' H' K' f1 f2
  | box t x =>
    simp only [exOp, ho] at h
    have hg : inHeap O o.dst = false := by simpa [light, ho] using hl
    obtain ⟨d, k1, k2, k3, k4⟩ := newMem_val (hx := fun _ => .undef) hg h (fun d => rfl)
    refine ⟨_, some (d, _), k3, fun d' l' e => by simp only [Option.some.injEq, Prod.mk.injEq] at e; rw [← e.1]; exact ⟨k1, k2⟩, fun t ht => .inr ⟨_, by simp [AV.key] at ht; rw [ht]⟩, fun s' H' K' hx _ _ hf => ?_⟩
    obtain ⟨f1, f2⟩ := hf d _ rfl
    simp only [exOp, ho, hx x (by simp [ho, Op.operands])]
    exact k4 s' H' K' f1 f2
  | build t ps =>
    simp only [exOp, ho] at h
    obtain ⟨l', h3, h⟩ := Option.bind_eq_some_iff.1 h
    refine Lt.plain _ h (fun t ht => by simp [AV.key] at ht) fun s' H' K' hx => ?_
    have e1 : ∀ ty : Nat → TypeId, (ps.toList.map fun p => (p.1, fixN P (ty p.1) (s'.ev p.2))) = ps.toList.map fun p => (p.1, fixN P (ty p.1) (s.ev p.2)) := fun ty =>
      List.map_congr_left fun p hp => by rw [hx p.2 (by simp only [ho, Op.operands]; exact List.mem_map.2 ⟨p, hp, rfl⟩)]
    simp only [exOp, ho, e1, h3, Option.bind_some]
  | buildSlice t n ps =>
    simp only [exOp, ho] at h
    have hg : inHeap O o.dst = false := by simpa [light, ho] using hl
    split at h
    · rename_i e hu
      split at h
      · rename_i hb
        obtain ⟨z, h1, h⟩ := Option.bind_eq_some_iff.1 h
        split at h
        · rename_i hz
          obtain ⟨l, h2, h⟩ := Option.bind_eq_some_iff.1 h
          obtain ⟨d, k1, k2, k3, k4⟩ := newMem_val (hx := fun _ => .undef) hg h (fun d => rfl)
          refine ⟨_, some (d, l), k3, fun d' l' e => by simp only [Option.some.injEq, Prod.mk.injEq] at e; rw [← e.1]; exact ⟨k1, k2⟩, fun t ht => .inr ⟨l, by simp [AV.key] at ht; rw [ht]⟩, fun s' H' K' hx _ _ hf => ?_⟩
          obtain ⟨f1, f2⟩ := hf d l rfl
          have e1 : (ps.toList.map fun p => (p.1, fixN P e (s'.ev p.2))) = ps.toList.map fun p => (p.1, fixN P e (s.ev p.2)) :=
            List.map_congr_left fun p hp => by rw [hx p.2 (by simp only [ho, Op.operands]; exact List.mem_map.2 ⟨p, hp, rfl⟩)]
          simp only [exOp, ho, hu, if_pos hb, h1, Option.bind_some, if_pos hz, e1, h2]
          exact k4 s' H' K' f1 f2
        · simp at h
      · simp at h
    · simp at h
  | load t x =>
    simp only [exOp, ho] at h
    have m1 : x ∈ o.op.operands.toList := by simp [ho, Op.operands]
    cases hx : s.ev x with
    | ptr b p =>
      rw [hx] at h
      simp only [exLoad] at h
      split at h
      · rename_i cs hcs
        split at h
        · rename_i hlen
          cases hag : isAggT P t with
          | true =>
            simp only [hag, cond_true] at h
            obtain ⟨l, k1, k2⟩ := ldKs_val h
            refine ⟨_, none, k1, fun d l e => (by cases e), fun t ht => (by simp [AV.key] at ht), fun s' H' K' he _ hld _ => ?_⟩
            simp only [exOp, ho, he x m1, hx, exLoad, hcs, if_pos hlen, hag, cond_true]
            exact k2 H' _ fun j hj => hld t x b p ho hx j (by omega)
          | false =>
            simp only [hag, cond_false] at h
            split at h
            · rename_i c
              rw [ldK_eq] at h
              obtain ⟨v, h1, h2⟩ := Option.bind_eq_some_iff.1 h
              obtain ⟨h3, hk, h4⟩ := nK_val h2
              refine ⟨v, none, h3, fun d l e => (by cases e), fun t ht => (by rw [hk] at ht; cases ht), fun s' H' K' he _ hld _ => ?_⟩
              have h0 := hld t x b p ho hx 0 (by simp at hlen; omega)
              simp only [Nat.add_zero] at h0
              simp only [exOp, ho, he x m1, hx, exLoad, hcs, if_pos hlen, hag, cond_false]
              rw [ldK_eq, h0, h1]
              exact h4 _
            · simp at h
        · simp at h
      · simp at h
    | lp y p =>
      rw [hx] at h
      simp only [exLoad] at h
      obtain ⟨l, h1, h⟩ := Option.bind_eq_some_iff.1 h
      have hy : y ∈ opKeys o s := key_mem m1 (by rw [hx]; rfl)
      split at h
      · rename_i cs hcs
        cases hag : isAggT P t with
        | true =>
          simp only [hag, cond_true] at h
          split at h
          · rename_i hle
            refine ⟨_, none, h, fun d l e => (by cases e), fun t ht => (by simp [AV.key] at ht), fun s' H' K' he hlo _ _ => ?_⟩
            simp only [exOp, ho, he x m1, hx, exLoad, hlo y hy, h1, Option.bind_some, hcs, hag, cond_true, if_pos hle]
            rfl
          · simp at h
        | false =>
          simp only [hag, cond_false] at h
          obtain ⟨v, hv, h⟩ := Option.bind_eq_some_iff.1 h
          cases hvc : v.cell with
          | false => simp [hvc] at h
          | true =>
            simp only [hvc, cond_true] at h
            obtain ⟨h, hai⟩ := asInt_ok h
            refine ⟨v, none, h, fun d l e => (by cases e), fun t ht => (by cases v <;> simp [AV.key, AV.cell] at ht hvc), fun s' H' K' he hlo _ _ => ?_⟩
            simp only [exOp, ho, he x m1, hx, exLoad, hlo y hy, h1, Option.bind_some, hcs, hag, cond_false, hv, hvc, cond_true, hai]
            rfl
      · simp at h
    | _ => rw [hx] at h; simp [exLoad] at h
  | nilCheck x =>
    simp only [exOp, ho] at h
    have m1 : x ∈ o.op.operands.toList := by simp [ho, Op.operands]
    split at h
    · rename_i b p hx
      refine Lt.plain _ h (fun t ht => by simp [AV.key] at ht) fun s' H' K' he => ?_
      simp only [exOp, ho, he x m1, hx]
    · rename_i y p hx
      refine Lt.plain _ h (fun t ht => key_mem m1 (by rw [hx]; exact ht)) fun s' H' K' he => ?_
      simp only [exOp, ho, he x m1, hx]
    · simp at h
  | binOp op t x y u =>
    simp only [exOp, ho] at h
    obtain ⟨v, h1, h2, h3⟩ := binV_val (K := fun v => K v s H) h
    refine Lt.plain v h1 (fun t ht => by rw [h2] at ht; cases ht) fun s' H' K' he => ?_
    simp only [exOp, ho, he x (by simp [ho, Op.operands]), he y (by simp [ho, Op.operands])]
    exact h3 fun v => K' v s' H'
  | unOp op t x =>
    simp only [exOp, ho] at h
    have m1 : x ∈ o.op.operands.toList := by simp [ho, Op.operands]
    split at h
    · rename_i b hx
      refine Lt.plain _ h (fun t ht => by simp [AV.key] at ht) fun s' H' K' he => ?_
      simp only [exOp, ho, he x m1, hx]
    · rename_i k n hx
      refine Lt.plain _ h (fun t ht => by simp [AV.key] at ht) fun s' H' K' he => ?_
      simp only [exOp, ho, he x m1, hx]
    · simp at h
  | convert t u x =>
    simp only [exOp, ho] at h
    have m1 : x ∈ o.op.operands.toList := by simp [ho, Op.operands]
    split at h
    · rename_i d k k' n h1 h2 hx
      refine Lt.plain _ h (fun t ht => by simp [AV.key] at ht) fun s' H' K' he => ?_
      simp only [exOp, ho, he x m1, hx, h1, h2]
    · simp at h
  | makeFunc fn first captured =>
    cases fn with
    | func f =>
      simp only [exOp, ho] at h
      split at h
      · rename_i hf
        cases hall : (captured.toList.map s.ev).all AV.cell with
        | false => simp [hall] at h
        | true =>
          simp only [hall, cond_true] at h
          refine Lt.plain _ h (fun t ht => by simp [AV.key] at ht) fun s' H' K' he => ?_
          have e1 : captured.toList.map s'.ev = captured.toList.map s.ev := List.map_congr_left fun x hx => he x (by simp [ho, Op.operands]; right; simpa using hx)
          simp only [exOp, ho, if_pos hf, e1, hall, cond_true]
      · simp at h
    | _ => simp [exOp, ho] at h
  | slice t x lo hi mx =>
    simp only [exOp, ho] at h
    have m1 : x ∈ o.op.operands.toList := by simp [ho, Op.operands]
    split at h
    · rename_i e sz y hu hx
      split at h
      · rename_i hsz
        obtain ⟨p, h, hp⟩ := sliK_val h
        obtain ⟨q, h, hq⟩ := sliK_val h
        obtain ⟨m, h, hm⟩ := sliK_val h
        split at h
        · rename_i hb
          refine Lt.plain _ h (fun t ht => by simp [AV.key] at ht) fun s' H' K' he => ?_
          simp only [exOp, ho, he x m1, hx, hu, if_pos hsz]
          rw [hp s' _ (fun z hz => he z (by subst hz; simp [ho, Op.operands])), hq s' _ (fun z hz => he z (by subst hz; simp [ho, Op.operands])), hm s' _ (fun z hz => he z (by subst hz; simp [ho, Op.operands])), if_pos hb]
        · simp at h
      · simp at h
    · simp at h
  | fieldAddr t x i =>
    simp only [exOp, ho] at h
    have m1 : x ∈ o.op.operands.toList := by simp [ho, Op.operands]
    obtain ⟨fs, h1, h⟩ := Option.bind_eq_some_iff.1 h
    obtain ⟨f, h2, h⟩ := Option.bind_eq_some_iff.1 h
    split at h
    · simp at h
    · rename_i hne
      split at h
      · rename_i b p hx
        refine Lt.plain _ h (fun t ht => by simp [AV.key] at ht) fun s' H' K' he => ?_
        simp only [exOp, ho, he x m1, hx, h1, h2, Option.bind_some, if_neg hne]
      · rename_i y p hx
        refine Lt.plain _ h (fun t ht => key_mem m1 (by rw [hx]; simpa [AV.key] using ht)) fun s' H' K' he => ?_
        simp only [exOp, ho, he x m1, hx, h1, h2, Option.bind_some, if_neg hne]
      · simp at h
  | field t x i =>
    simp only [exOp, ho] at h
    have m1 : x ∈ o.op.operands.toList := by simp [ho, Op.operands]
    obtain ⟨fs, h1, h⟩ := Option.bind_eq_some_iff.1 h
    obtain ⟨f, h2, h⟩ := Option.bind_eq_some_iff.1 h
    split at h
    · rename_i l hx
      split at h
      · rename_i d hd
        cases hag : isAggT P f.type with
        | true =>
          simp only [hag, cond_true] at h
          refine Lt.plain _ h (fun t ht => by simp [AV.key] at ht) fun s' H' K' he => ?_
          simp only [exOp, ho, he x m1, hx, h1, h2, Option.bind_some, hd, hag, cond_true]
        | false =>
          simp only [hag, cond_false] at h
          obtain ⟨v, hv, h⟩ := Option.bind_eq_some_iff.1 h
          cases hvc : v.cell with
          | false => simp [hvc] at h
          | true =>
            simp only [hvc, cond_true] at h
            refine Lt.plain _ h (fun t ht => by cases v <;> simp [AV.key, AV.cell] at ht hvc) fun s' H' K' he => ?_
            simp only [exOp, ho, he x m1, hx, h1, h2, Option.bind_some, hd, hag, cond_false, hv, hvc, cond_true]
      · simp at h
    · simp at h
  | indexAddr t x y =>
    simp only [exOp, ho] at h
    have m1 : x ∈ o.op.operands.toList := by simp [ho, Op.operands]
    have m2 : y ∈ o.op.operands.toList := by simp [ho, Op.operands]
    split at h
    · rename_i e sz z k n hu hx hy
      split at h
      · rename_i hsz
        cases hb : (decide (0 ≤ n) && decide (n < (z.len : Int))) with
        | false => simp [hb] at h
        | true =>
          simp only [hb, cond_true] at h
          refine Lt.plain _ h (fun t ht => by simp [AV.key] at ht) fun s' H' K' he => ?_
          simp only [exOp, ho, he x m1, he y m2, hx, hy, hu, if_pos hsz, hb, cond_true]
      · simp at h
    · rename_i e sz y' m k n hu hx hy
      split at h
      · rename_i hsz
        cases hb : (decide (0 ≤ n) && decide (n < (m : Int))) with
        | false => simp [hb] at h
        | true =>
          simp only [hb, cond_true] at h
          refine Lt.plain _ h (fun t ht => key_mem m1 (by rw [hx]; simpa [AV.key] using ht)) fun s' H' K' he => ?_
          simp only [exOp, ho, he x m1, he y m2, hx, hy, hu, if_pos hsz, hb, cond_true]
      · simp at h
    · rename_i m e b p k n hu hx hy
      split at h
      · rename_i hsz
        cases hb : (decide (0 ≤ n) && decide (n < (m : Int))) with
        | false => simp [hb] at h
        | true =>
          simp only [hb, cond_true] at h
          refine Lt.plain _ h (fun t ht => by simp [AV.key] at ht) fun s' H' K' he => ?_
          simp only [exOp, ho, he x m1, he y m2, hx, hy, hu, if_pos hsz, hb, cond_true]
      · simp at h
    · simp at h
  | extract x i =>
    simp only [exOp, ho] at h
    have m1 : x ∈ o.op.operands.toList := by simp [ho, Op.operands]
    split at h
    · rename_i l hx
      obtain ⟨v, hv, h⟩ := Option.bind_eq_some_iff.1 h
      cases hvc : v.glob with
      | false => simp [hvc] at h
      | true =>
        simp only [hvc, cond_true] at h
        refine Lt.plain _ h (fun t ht => by cases v <;> simp [AV.key, AV.cell, AV.glob] at ht hvc) fun s' H' K' he => ?_
        simp only [exOp, ho, he x m1, hx, hv, hvc, Option.bind_some, cond_true]
    · simp at h
  | call c =>
    obtain ⟨callee, args, argTypes⟩ := c
    have hargs : ∀ s' : St, (∀ x ∈ o.op.operands.toList, s'.ev x = s.ev x) → args.toList.map s'.ev = args.toList.map s.ev := fun s' he =>
      List.map_congr_left fun x hx => he x (by simp [ho, Op.operands, Call.operands]; right; simpa using hx)
    cases callee with
    | builtin b =>
      cases b with
      | len =>
        simp only [exOp, ho] at h
        split at h
        · rename_i sz y hv
          split at h
          · rename_i e ht
            refine Lt.plain _ h (fun t ht => by simp [AV.key] at ht) fun s' H' K' he => ?_
            simp only [exOp, ho, hargs s' he, hv, ht]
          · simp at h
        · simp at h
      | max =>
        simp only [exOp, ho] at h
        split at h
        · rename_i k n l hv
          obtain ⟨u, h1, h⟩ := Option.bind_eq_some_iff.1 h
          refine Lt.plain _ h (fun t ht => by rw [foldI_key h1] at ht; cases ht) fun s' H' K' he => ?_
          simp only [exOp, ho, hargs s' he, hv, h1, Option.bind_some]
        · simp at h
      | min =>
        simp only [exOp, ho] at h
        split at h
        · rename_i k n l hv
          obtain ⟨u, h1, h⟩ := Option.bind_eq_some_iff.1 h
          refine Lt.plain _ h (fun t ht => by rw [foldI_key h1] at ht; cases ht) fun s' H' K' he => ?_
          simp only [exOp, ho, hargs s' he, hv, h1, Option.bind_some]
        · simp at h
      | _ => simp [light, ho] at hl
    | _ => simp [light, ho] at hl
  | _ => simp [light, ho] at hl
end

end Go.Proofs.Ytoalafkpkllebaa.Ab
