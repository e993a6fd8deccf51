/- Regions that draw their order: whatever the order, the outcome is the plain machine's. No conditions. -/
import Derived.Test.YtoalafkpkllebaaAw
import Derived.Test.YtoalafkpkllebaaAg
set_option linter.unusedVariables false
set_option linter.unusedSimpArgs false
namespace Go.Proofs.Ytoalafkpkllebaa.Ab
open Go

theorem pairsOk_pw {f : Nat → Nat → Bool} : ∀ {l : List Nat}, pairsOk f l = true → l.Pairwise fun m i => f m i = true
  | [], _ => .nil
  | m :: l, h => by
    simp only [pairsOk, Bool.and_eq_true] at h
    exact .cons (fun i hi => List.all_eq_true.1 h.1 i hi) (pairsOk_pw h.2)

section
variable {P : Program} {O : Orc} {rec : Rec} {ops : Array Oper} {b : Array Nat} {r : AV × Hp} {K : St → Hp → An}

/-- The slot of no operation of the list speaks of a variable of the call. -/
def NLs (ops : Array Oper) (l : List Nat) (s : St) : Prop := ∀ i ∈ l, ∀ o, ops[i]? = some o → NL o s
def DstNe (ops : Array Oper) (m i : Nat) : Prop := ∀ om oi d, ops[m]? = some om → ops[i]? = some oi → om.dst = some d → oi.dst ≠ some d

theorem NLs.light {l : List Nat} {s : St} {m : Nat} {om : Oper} {c : Option (Nat × List AV)} {v : AV} (hm : ops[m]? = some om) (h : NLs ops l s) (hd : ∀ i ∈ l, DstNe ops m i) : NLs ops l ((s.app c).put om.dst v) := by
  intro i hi o ho d hod
  rw [put_tm, app_tm, if_neg (fun hh => hd i hi om o d hm ho hh.1 hod)]
  exact h i hi o ho d hod
theorem NLs.heavy {l : List Nat} {s : St} {m : Nat} {om : Oper} {e : Ef} {v : AV} (hm : ops[m]? = some om) (h : NLs ops l s) (hd : ∀ i ∈ l, DstNe ops m i) : NLs ops l ((s.eff e).put om.dst v) := by
  intro i hi o ho d hod
  rw [put_tm, if_neg (fun hh => hd i hi om o d hm ho hh.1 hod)]
  have h0 := h i hi o ho d hod
  cases hk : ((s.eff e).tm.getD d .undef).key with
  | none => rfl
  | some t => rw [eff_key s e d t hk] at h0; cases h0

theorem exD_front {i : Nat} {oi : Oper} (hi : ops[i]? = some oi) {post : List Nat} : ∀ (pre : List Nat) {W : List Wt} {s : St} {H : Hp}, (∀ m ∈ pre, ∃ om, ops[m]? = some om ∧ light O om = true ∧ om.apart ops oi = true ∧ anc b m i = false) → pre.Pairwise (DstNe ops) → NLs ops pre s →
    exD P O rec ops b (pre ++ i :: post) W s H K = some r → exD P O rec ops b (i :: (pre ++ post)) W s H K = some r
  | [], W, s, H, _, _, _, h => h
  | m :: pre, W, s, H, hp, hd, hn, h => by
    obtain ⟨om, h1, h2, h3, h4⟩ := hp m (by simp)
    refine exD_swap h1 hi h2 h3 h4 (hn m (by simp) om h1) ?_
    rw [List.cons_append] at h
    simp only [exD, chk_eq, h1, h2, cond_true] at h ⊢
    obtain ⟨v, c, k1, c1, _, _, rm⟩ := gl_ok h2 h
    rw [rm s H _ (fun t _ => rfl) (fun t _ => rfl) (fun t a b p _ _ j _ => rfl) (fun d l' e => (c1 d l' e).2)]
    exact exD_front hi pre (fun m' hm' => hp m' (by simp [hm'])) (List.Pairwise.of_cons hd) (NLs.light h1 (fun j hj => hn j (by simp [hj])) fun j hj => (List.pairwise_cons.1 hd).1 j hj) k1

/-- What is known of the order. -/
structure RL (O : Orc) (ops : Array Oper) (b : Array Nat) (l : List Nat) (listed : Array Bool) : Prop where
  size : listed.size = ops.size
  mem : ∀ i, i < ops.size → (listed.getD i true = false ↔ i ∈ l)
  lt : ∀ i ∈ l, i < ops.size
  closed : ∀ j m, j < ops.size → m < ops.size → listed.getD j false = true → anc b m j = true → listed.getD m false = true
  pw : l.Pairwise fun m i => pairOk O ops b m i = true
  dn : l.Pairwise (DstNe ops)
  direct : ∀ i, i < ops.size → ∀ m ∈ preds ops i, m < ops.size ∧ anc b m i = true
  irr : ∀ i, i < ops.size → anc b i i = false
  just : ∀ i m, i < ops.size → m < ops.size → anc b m i = true → m ∈ preds ops i ∨ ∃ e ∈ preds ops i, anc b m e = true

theorem getD_listed {listed : Array Bool} {i : Nat} (h : i < listed.size) (d e : Bool) : listed.getD i d = listed.getD i e := by
  simp [Array.getD_eq_getD_getElem?, h]

theorem RL.preds_listed {l : List Nat} {listed : Array Bool} (h : RL O ops b l listed) {i : Nat} {o : Oper} (ho : ops[i]? = some o) : (∀ e ∈ o.after, Region.binds .any e = true → listed.getD e.on false = true) ↔ ∀ m ∈ preds ops i, listed.getD m false = true := by
  unfold preds
  rw [ho]
  simp only [Option.map_some, Option.getD_some, List.mem_map, List.mem_filter, Array.mem_toList_iff]
  constructor
  · rintro h m ⟨e, ⟨h1, h2⟩, rfl⟩; exact h e h1 h2
  · intro h e h1 h2; exact h e.on ⟨e, ⟨h1, h2⟩, rfl⟩

theorem wpAny_ok (hn : P.funcs.all (fun fn => !(fn.name == "runtime.NumGoroutine")) = true) (hrec : RecS P rec) {E0 : En} {H0 : Hp} {w0 : World} {Q : Exit → Act → World → Prop} (hK : NxS E0 H0 w0 K r (Q .normal)) :
    ∀ (n : Nat) (l : List Nat) (listed : Array Bool) {s : St} {H : Hp} {E : En} {la : Nat → Nat} {a : Act} {w : World}, l.length = n → RL O ops b l listed → NLs ops l s → exD P O rec ops b l [] s H K = some r → Inv E0 H0 w0 E la s H a w → wpAny P .any ops Q n listed a w := by
  have hempty : ∀ (l : List Nat) (listed : Array Bool) {s : St} {H : Hp} {E : En} {la : Nat → Nat} {a : Act} {w : World}, RL O ops b l listed → exD P O rec ops b l [] s H K = some r → Inv E0 H0 w0 E la s H a w → Region.ready .any ops listed = [] → Q .normal a w := by
    intro l listed s H E la a w hr hx hi hrd
    cases l with
    | nil => exact hK _ _ _ _ _ _ hx hi
    | cons i l =>
      exfalso
      have hlt := hr.lt i (by simp)
      have hmem : i ∈ Region.ready .any ops listed := by
        rw [mem_ready]
        refine ⟨(hr.mem i hlt).2 (by simp), ops[i], by simp [hlt], ?_⟩
        rw [hr.preds_listed (Array.getElem?_eq_getElem hlt)]
        intro m hm
        obtain ⟨hml, ha⟩ := hr.direct i hlt m hm
        cases hd : listed.getD m false with
        | true => rfl
        | false =>
          exfalso
          rw [getD_listed (by rw [hr.size]; exact hml) false true] at hd
          have hin := (hr.mem m hml).1 hd
          rcases List.mem_cons.1 hin with rfl | hin
          · rw [hr.irr m hml] at ha; cases ha
          · have := (List.pairwise_cons.1 hr.pw).1 m hin
            unfold pairOk at this
            rw [ha] at this
            simp at this
      rw [hrd] at hmem
      cases hmem
  intro n
  induction n with
  | zero =>
    intro l listed s H E la a w hl hr hnl hx hi
    have hl0 : l = [] := List.eq_nil_of_length_eq_zero hl
    subst hl0
    refine ⟨?_, hK _ _ _ _ _ _ hx hi⟩
    cases hrd : Region.ready .any ops listed with
    | nil => rfl
    | cons i rest =>
      have hm : i ∈ Region.ready .any ops listed := by rw [hrd]; simp
      obtain ⟨h1, o, h2, _⟩ := mem_ready.1 hm
      have hlt : i < ops.size := (Array.getElem?_eq_some_iff.1 h2).1
      have := (hr.mem i hlt).1 h1
      cases this
  | succ n ih =>
    intro l listed s H E la a w hl hr hnl hx hi
    refine ⟨hempty l listed hr hx hi, fun i hm => ?_⟩
    obtain ⟨h1, oi, hoi, h3⟩ := mem_ready.1 hm
    have hlt : i < ops.size := (Array.getElem?_eq_some_iff.1 hoi).1
    have hil := (hr.mem i hlt).1 h1
    rw [hr.preds_listed hoi] at h3
    obtain ⟨pre, post, rfl⟩ := List.append_of_mem hil
    have hpw := hr.pw
    have hdn := hr.dn
    rw [List.pairwise_append] at hpw hdn
    -- an operation that has not run is not ahead of it
    have hanc : ∀ m, m < ops.size → listed.getD m true = false → anc b m i = false := by
      intro m hml hmf
      cases ha : anc b m i with
      | false => rfl
      | true =>
        exfalso
        have hmf' : listed.getD m false = false := by rw [getD_listed (by rw [hr.size]; exact hml) false true]; exact hmf
        rcases hr.just i m hlt hml ha with hp | ⟨e, he, hae⟩
        · rw [h3 m hp] at hmf'; cases hmf'
        · have hle := h3 e he
          have hel : e < ops.size := by
            rcases Nat.lt_or_ge e ops.size with h | h
            · exact h
            · rw [Array.getD_eq_getD_getElem?, Array.getElem?_eq_none (by rw [hr.size]; exact h)] at hle; simp at hle
          rw [hr.closed e m hel hml hle hae] at hmf'; cases hmf'
    have hfront := exD_front hoi pre (fun m hm' => by
      have hml := hr.lt m (by simp [hm'])
      have hpo := hpw.2.2 m hm' i (by simp)
      have hna := hanc m hml ((hr.mem m hml).2 (by simp [hm']))
      unfold pairOk at hpo
      rw [hna, hoi] at hpo
      cases hom : ops[m]? with
      | none => rw [hom] at hpo; simp at hpo
      | some om =>
        rw [hom] at hpo
        simp at hpo
        exact ⟨om, rfl, hpo.2.1, hpo.2.2, hna⟩) hdn.1 (fun j hj => hnl j (by simp [hj])) hx
    -- what is left
    have hdi : ∀ j ∈ pre ++ post, DstNe ops i j := by
      intro j hj
      rcases List.mem_append.1 hj with hj | hj
      · intro om oj d e1 e2 e3 e4
        exact hdn.2.2 j hj i (by simp) oj om d e2 e1 e4 e3
      · exact (List.pairwise_cons.1 hdn.2.1).1 j hj
    have hne : ∀ j ∈ pre ++ post, j ≠ i := by
      intro j hj e
      subst e
      rcases List.mem_append.1 hj with hj | hj
      · have := hpw.2.2 j hj j (by simp)
        unfold pairOk at this
        simp at this
      · have := (List.pairwise_cons.1 hpw.2.1).1 j hj
        unfold pairOk at this
        simp at this
    have hr' : RL O ops b (pre ++ post) (listed.setIfInBounds i true) := by
      have hsz : (listed.setIfInBounds i true).size = ops.size := by simp [hr.size]
      have hget : ∀ j, j < ops.size → (listed.setIfInBounds i true).getD j true = if j = i then true else listed.getD j true := by
        intro j hj
        by_cases hji : i = j
        · subst hji
          simp [Array.getD_eq_getD_getElem?, hr.size, hlt]
        · rw [if_neg (fun e => hji e.symm)]
          simp [Array.getD_eq_getD_getElem?, Array.getElem?_setIfInBounds_ne hji]
      refine ⟨hsz, fun j hj => ?_, fun j hj => hr.lt j ?_, fun j m hj hm' hlj ham => ?_, ?_, ?_, hr.direct, hr.irr, hr.just⟩
      · rw [hget j hj]
        by_cases hji : j = i
        · subst hji
          simp only [if_true]
          exact ⟨fun h => (by cases h), fun h => absurd rfl (hne j h)⟩
        · rw [if_neg hji, hr.mem j hj]
          simp [hji]
      · rcases List.mem_append.1 hj with h | h <;> simp [h]
      · rw [getD_listed (by rw [hsz]; exact hm') false true, hget m hm']
        split
        · rfl
        · rw [getD_listed (by rw [hsz]; exact hj) false true, hget j hj] at hlj
          split at hlj
          · rename_i hji
            subst hji
            cases hd : listed.getD m true with
            | true => rfl
            | false => rw [hanc m hm' hd] at ham; cases ham
          · rw [getD_listed (by rw [hr.size]; exact hj) true false] at hlj
            rw [getD_listed (by rw [hr.size]; exact hm') true false]
            exact hr.closed j m hj hm' hlj ham
      · exact List.pairwise_append.2 ⟨hpw.1, List.Pairwise.of_cons hpw.2.1, fun x hx' y hy => hpw.2.2 x hx' y (by simp [hy])⟩
      · exact List.pairwise_append.2 ⟨hdn.1, List.Pairwise.of_cons hdn.2.1, fun x hx' y hy => hdn.2.2 x hx' y (by simp [hy])⟩
    have hlen : (pre ++ post).length = n := by simp at hl ⊢; omega
    have hnl' : NLs ops (pre ++ post) s := fun j hj => hnl j (by rcases List.mem_append.1 hj with h | h <;> simp [h])
    simp only [exD, chk_eq, hoi] at hfront
    cases hl' : light O oi with
    | true =>
      simp only [hl', cond_true] at hfront
      obtain ⟨v, c, k1, c1, _, _, rm⟩ := gl_ok hl' hfront
      have hg : exGd P O rec ops oi s H (fun s' H' => open Classical in if s' = (s.app c).put oi.dst v then exD P O rec ops b (pre ++ post) [wt P i oi s H] s' H' K else none) = some r := by
        rw [rm s H _ (fun t _ => rfl) (fun t _ => rfl) (fun t a b p _ _ j _ => rfl) (fun d l' e => (c1 d l' e).2), if_pos rfl]
        exact k1
      refine exGd_ok hn hrec hoi hi hg fun s' H' E' la' a' w' h4 h5 => ?_
      split at h4
      · rename_i hs'
        subst hs'
        exact ih _ _ hlen hr' (NLs.light hoi hnl' hdi) (exD_mono _ h4 fun w' hw' => by cases hw') h5
      · cases h4
    | false =>
      simp only [hl', cond_false] at hfront
      obtain ⟨v, e, H1, k1, _, _, rm⟩ := gh_ok hl' hfront
      have hg : exGd P O rec ops oi s H (fun s' H' => open Classical in if s' = (s.eff e).put oi.dst v then exD P O rec ops b (pre ++ post) [] s' H' K else none) = some r := by
        rw [rm s _ (fun t _ => rfl) (fun t _ => rfl), if_pos rfl]
        simpa using k1
      refine exGd_ok hn hrec hoi hi hg fun s' H' E' la' a' w' h4 h5 => ?_
      split at h4
      · rename_i hs'
        subst hs'
        exact ih _ _ hlen hr' (NLs.heavy hoi hnl' hdi) h4 h5
      · cases h4

theorem draws_ok (hn : P.funcs.all (fun fn => !(fn.name == "runtime.NumGoroutine")) = true) (hmix : P.follows .mixedOrders = true) (hrec : RecS P rec) {E0 : En} {H0 : Hp} {w0 : World} {Q : Exit → Act → World → Prop} {id : Nat} {s : St} {H : Hp} {E : En} {la : Nat → Nat} {a : Act} {w : World}
    (hK : NxS E0 H0 w0 K r (Q .normal)) (hi : Inv E0 H0 w0 E la s H a w) {l : List Nat}
    (h : (bif dOk O ops b l && noLoc s ops then exD P O rec ops b l [] s H K else none) = some r) : (Code.region id ops true).wp P Q a w := by
  cases hd : (dOk O ops b l && noLoc s ops) with
  | false => simp [hd] at h
  | true =>
    simp only [hd, cond_true] at h
    rw [Bool.and_eq_true] at hd
    obtain ⟨hd, hnl⟩ := hd
    unfold dOk at hd
    simp only [Bool.and_eq_true] at hd
    obtain ⟨⟨⟨⟨h1, h2⟩, h3⟩, h4⟩, h5⟩ := hd
    refine wp_region_any hmix ?_
    have hlen : l.length = ops.size := by simpa using h1
    rw [List.all_eq_true] at h2 h3
    have hmem : ∀ i, i < ops.size → i ∈ l := fun i hi => by simpa using h2 i (by simpa using hi)
    have hlt : ∀ i ∈ l, i < ops.size := by
      -- as many as there are, and each of them
      intro i hi
      rcases Nat.lt_or_ge i ops.size with h | h
      · exact h
      · exfalso
        have hnd : l.Nodup := (pairsOk_pw h4).imp fun {m i} hh => by
          unfold pairOk at hh
          simp at hh
          exact hh.1.1
        have hsub : List.range ops.size ⊆ l.erase i := fun j hj => by
          have hj' : j < ops.size := by simpa using hj
          exact (List.mem_erase_of_ne (by omega)).2 (hmem j hj')
        have hle := (List.nodup_range (n := ops.size)).length_le_of_subset hsub
        rw [List.length_erase_of_mem hi, hlen, List.length_range] at hle
        have : 0 < l.length := List.length_pos_of_mem hi
        omega
    have h3' : ∀ i, i < ops.size → anc b i i = false ∧ (∀ m ∈ preds ops i, m < ops.size ∧ anc b m i = true) ∧ ∀ m, m < ops.size → anc b m i = true → m ∈ preds ops i ∨ ∃ e ∈ preds ops i, anc b m e = true := by
      intro i hi
      have := h3 i (by simpa using hi)
      rw [Bool.and_eq_true, Bool.and_eq_true] at this
      obtain ⟨⟨q1, q2⟩, q3⟩ := this
      refine ⟨by simpa using q1, fun m hm => ?_, fun m hm ha => ?_⟩
      · have := List.all_eq_true.1 q2 m hm
        simpa using this
      · have := List.all_eq_true.1 q3 m (by simpa using hm)
        rw [ha] at this
        simpa using this
    have hrep : ∀ (i : Nat) (d : Bool), i < ops.size → (Array.replicate ops.size false).getD i d = false := fun i d hi => by simp [Array.getD_eq_getD_getElem?, hi]
    refine wpAny_ok hn hrec hK ops.size l _ hlen ⟨by simp, fun i hi => ⟨fun _ => hmem i hi, fun _ => hrep i true hi⟩, hlt, fun j m hj hm hlj => ?_, pairsOk_pw h4, ?_, fun i hi m hm => (h3' i hi).2.1 m hm, fun i hi => (h3' i hi).1, fun i m hi hm ha => (h3' i hi).2.2 m hm ha⟩ ?_ h (hi.same rfl rfl rfl rfl)
    · rw [hrep j false hj] at hlj; cases hlj
    · refine (pairsOk_pw h5).imp fun {m i} hh => ?_
      intro om oi d e1 e2 e3 e4
      rw [e1, e2] at hh
      simp [e3, e4] at hh
    · intro i hi o ho d hd
      have := List.all_eq_true.1 hnl o (by rw [Array.mem_toList_iff]; exact Array.mem_of_getElem? ho)
      rw [hd] at this
      simpa using this
end

end Go.Proofs.Ytoalafkpkllebaa.Ab
