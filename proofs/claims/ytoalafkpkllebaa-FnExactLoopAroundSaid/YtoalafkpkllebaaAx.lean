/- What the plain machine returns, the program returns. No conditions. -/
import Derived.Test.YtoalafkpkllebaaAh
import Derived.Deep.LoopGhost
set_option linter.unusedVariables false
set_option linter.unusedSimpArgs false
namespace Go.Proofs.Ytoalafkpkllebaa.Ab
open Go

section
variable {P : Program} {E0 : En} {H0 : Hp} {w0 : World} {E : En} {la : Nat → Nat} {s : St} {H : Hp} {a : Act} {w : World}
variable {O : Orc} {rec : Rec} {o : Oper} {r : AV × Hp} {next : Act → World → Prop} {Q : Exit → Act → World → Prop}

def Ex.to : Ex → Exit
  | .normal => .normal
  | .exit id => .exit id
  | .ret => .ret
/-- The relation in which code ends. -/
def NxE (E0 : En) (H0 : Hp) (w0 : World) (K : Ex → St → Hp → An) (r : AV × Hp) (Q : Exit → Act → World → Prop) : Prop :=
  ∀ e s' H' E' la' a' w', K e s' H' = some r → Inv E0 H0 w0 E' la' s' H' a' w' → Q e.to a' w'

theorem scrV_get (m : Nat) : ∀ (l : List AV) (k i : Nat) (v : AV), (St.scrV m k l)[i]? = some v → v = .undef ∨ l[i]? = some v
  | [], k, i, v, h => by simp [St.scrV] at h
  | x :: l, k, 0, v, h => by
    simp only [St.scrV, List.getElem?_cons_zero, Option.some.injEq] at h
    cases hb : m.testBit k <;> simp [hb] at h
    · exact .inl h.symm
    · exact .inr (by simp [h])
  | x :: l, k, i + 1, v, h => by simpa using scrV_get m l (k + 1) i v (by simpa [St.scrV] using h)
theorem scrV_len (m : Nat) : ∀ (l : List AV) (k : Nat), (St.scrV m k l).length = l.length
  | [], _ => rfl
  | _ :: l, k => by simp [St.scrV, scrV_len m l]
theorem scrL_get (m : Nat) : ∀ (l : List (Option (List AV))) (k i : Nat) (v : List AV), (St.scrL m k l)[i]? = some (some v) → l[i]? = some (some v)
  | [], k, i, v, h => by simp [St.scrL] at h
  | x :: l, k, 0, v, h => by
    simp only [St.scrL, List.getElem?_cons_zero, Option.some.injEq] at h
    cases hb : m.testBit k <;> simp [hb] at h
    simp [h]
  | x :: l, k, i + 1, v, h => by simpa using scrL_get m l (k + 1) i v (by simpa [St.scrL] using h)
theorem Inv.scr (hi : Inv E0 H0 w0 E la s H a w) (m : Option (Nat × Nat)) : Inv E0 H0 w0 E la (s.scr m) H a w := by
  cases m with
  | none => exact hi
  | some p => exact hi.weaken (scrV_len _ _ _) (fun i v hv => scrV_get _ _ _ i v hv) (fun i l hl => scrL_get _ _ _ i l hl)

theorem iter_ok {m : Option (Nat × Nat)} {c : Code} {body : St → Hp → (Ex → St → Hp → An) → An}
    (hb : ∀ {K : Ex → St → Hp → An} {Q : Exit → Act → World → Prop} {s H E la a w}, Inv E0 H0 w0 E la s H a w → body s H K = some r → NxE E0 H0 w0 K r Q → c.wp P Q a w)
    {K : Ex → St → Hp → An} (hK : NxE E0 H0 w0 K r Q) {k : Nat} (hi : Inv E0 H0 w0 E la s H a w) (h : iter m body K k s H = some r) : (Code.loop c).wp P Q a w := by
  refine wp_loop_ghost (fun n a w => ∃ s H E la, iter m body K n s H = some r ∧ Inv E0 H0 w0 E la s H a w) k ⟨s, H, E, la, h, hi⟩ ?_
  rintro n a w ⟨s, H, E, la, h1, h2⟩
  cases n with
  | zero => simp [iter] at h1
  | succ n =>
    simp only [iter] at h1
    refine hb h2 h1 fun e s' H' E' la' a' w' h3 h4 => ?_
    cases e with
    | normal => exact ⟨n, Nat.lt_succ_self n, _, _, _, _, h3, h4.scr m⟩
    | exit id => exact hK _ _ _ _ _ _ _ h3 h4
    | ret => exact hK _ _ _ _ _ _ _ h3 h4

theorem ex_ok (hn : P.funcs.all (fun fn => !(fn.name == "runtime.NumGoroutine")) = true) (hmix : P.follows .mixedOrders = true) (hrec : RecS P rec) {k : Nat} : ∀ (c : Code) {K : Ex → St → Hp → An} {Q : Exit → Act → World → Prop} {s H E la a w},
    Inv E0 H0 w0 E la s H a w → ex P O rec k c s H K = some r → NxE E0 H0 w0 K r Q → c.wp P Q a w := by
  intro c
  induction c with
  | skip => intro K Q s H E la a w hi h hK; exact wp_skip (hK _ _ _ _ _ _ _ h hi)
  | region id ops draw =>
    intro K Q s H E la a w hi h hK
    simp only [ex] at h
    cases draw with
    | true =>
      rw [if_pos rfl] at h
      exact draws_ok (K := fun s H => K .normal s H) hn hmix hrec (fun s' H' E' la' a' w' h1 h2 => hK .normal _ _ _ _ _ _ h1 h2) hi h
    | false =>
      rw [if_neg (by simp)] at h
      refine wp_region ?_
      have := exOps_ok (Q := Q) (ops := ops) (K := fun s H => K .normal s H) hn hrec (fun s' H' E' la' a' w' h1 h2 => hK .normal _ _ _ _ _ _ h1 h2) ops.toList 0 s H E la a w rfl hi h
      rwa [Array.length_toList, ← List.range_eq_range'] at this
  | seq x y ihx ihy =>
    intro K Q s H E la a w hi h hK
    simp only [ex] at h
    refine wp_seq (ihx hi h fun e s' H' E' la' a' w' h1 h2 => ?_)
    cases e with
    | normal => exact ihy (h2.scr _) h1 hK
    | exit id => exact hK _ _ _ _ _ _ _ h1 h2
    | ret => exact hK _ _ _ _ _ _ _ h1 h2
  | cond c x y ihx ihy =>
    intro K Q s H E la a w hi h hK
    simp only [ex] at h
    split at h
    · rename_i t ht
      have hc := hi.ev c
      rw [ht] at hc
      cases t with
      | true => exact wp_cond_true hc.bool_inv (ihx hi h hK)
      | false => exact wp_cond_false hc.bool_inv (ihy hi h hK)
    · simp at h
  | block id x ih =>
    intro K Q s H E la a w hi h hK
    simp only [ex] at h
    refine wp_block (ih hi h fun e s' H' E' la' a' w' h1 h2 => ?_)
    cases e with
    | normal => exact hK _ _ _ _ _ _ _ h1 h2
    | exit id' =>
      simp only at h1
      show Exit.inBlock id Q (.exit id') a' w'
      unfold Exit.inBlock
      split at h1
      · rename_i he; simp only [if_pos he]; exact hK _ _ _ _ _ _ _ h1 h2
      · rename_i he; simp only [if_neg he]; exact hK _ _ _ _ _ _ _ h1 h2
    | ret => exact hK _ _ _ _ _ _ _ h1 h2
  | loop x ih =>
    intro K Q s H E la a w hi h hK
    simp only [ex] at h
    exact iter_ok (fun hi h hK => ih hi h hK) hK (hi.scr _) h
  | exit id => intro K Q s H E la a w hi h hK; exact wp_exit (hK _ _ _ _ _ _ _ h hi)
  | ret => intro K Q s H E la a w hi h hK; exact wp_ret (hK _ _ _ _ _ _ _ h hi)
  | _ => intro K Q s H E la a w hi h hK; simp [ex] at h
end

def resF (ts : Array Value) : ResultVar → Sem Value
  | .tmp t => pure (ts.getD t Go.undef)
  | .cell x t => do loadVar t (← asAddr (ts.getD x Go.undef))
theorem results_eq (fn : Func) (ts : Array Value) : results fn ts = (do
    let vs ← fn.results.mapM (resF ts)
    pure (if h : vs.size = 1 then vs[0] else .tuple vs)) := by
  unfold results
  congr 1
def oneV : List Value → Value
  | [v] => v
  | l => .tuple ⟨l⟩
/-- The results, one by one. -/
theorem resK_ok {P : Program} {E0 : En} {H0 : Hp} {w0 : World} {E : En} {la : Nat → Nat} {s : St} {H : Hp} {a : Act} {w : World} (hi : Inv E0 H0 w0 E la s H a w) {r : AV × Hp} : ∀ (l : List ResultVar) (K : List AV → An), resK P s H l K = some r →
    ∃ vs rvs, K vs = some r ∧ (l.mapM (resF a.tmps)).run P w = .ok rvs w ∧ rvs.length = vs.length ∧ ∀ (i : Nat) v, vs[i]? = some v → ∃ rv, rvs[i]? = some rv ∧ VR E la v rv
  | [], K, h => ⟨[], [], h, rfl, rfl, fun i v hv => by simp at hv⟩
  | .tmp t :: l, K, h => by
    simp only [resK] at h
    obtain ⟨vs, rvs, h1, h2, h3, h4⟩ := resK_ok hi l _ h
    refine ⟨_, a.tmps.getD t Go.undef :: rvs, h1, ?_, by simp [h3], fun i v hv => ?_⟩
    · simp only [List.mapM_cons, resF, Sem.run_bind, Sem.run_pure, Result.andThen_ok, h2]
    · cases i with
      | zero =>
        simp only [List.getElem?_cons_zero, Option.some.injEq] at hv
        subst hv
        exact ⟨_, rfl, hi.tr.get t⟩
      | succ i => simpa using h4 i v (by simpa using hv)
  | .cell x t :: l, K, h => by
    simp only [resK] at h
    have hx := hi.tr.get x
    obtain ⟨u, ru, h1, h2, h3⟩ := load_ok hi hx h
    obtain ⟨vs, rvs, k1, k2, k3, k4⟩ := resK_ok hi l _ h1
    refine ⟨_, ru :: rvs, k1, ?_, by simp [k3], fun i v hv => ?_⟩
    · have hl : (resF a.tmps (.cell x t)).run P w = .ok ru w := by
        rw [← h2]
        unfold Instr.loadAt resF
        have hp : ∃ ad, a.tmps.getD x Go.undef = .pointer (some ad) := by
          generalize s.tm.getD x AV.undef = q at *
          generalize a.tmps.getD x Go.undef = rq at *
          cases q with
          | ptr b p => exact ⟨_, hx.ptr_inv.2⟩
          | lp y p => exact ⟨_, hx.lp_inv⟩
          | _ => simp [exLoad] at h
        obtain ⟨ad, hp⟩ := hp
        simp only [hp, asAddr, Instr.sureAddr]
      simp only [List.mapM_cons, Sem.run_bind, Sem.run_pure, Result.andThen_ok, hl, k2]
    · cases i with
      | zero =>
        simp only [List.getElem?_cons_zero, Option.some.injEq] at hv
        subst hv
        exact ⟨_, rfl, h3⟩
      | succ i => simpa using k4 i v (by simpa using hv)

theorem res_ok {P : Program} {E0 : En} {H0 : Hp} {w0 : World} {E : En} {la : Nat → Nat} {s : St} {H : Hp} {a : Act} {w : World} {fn : Func} {v : AV} {H' : Hp} (hi : Inv E0 H0 w0 E la s H a w) (h : fin P fn s H = some (v, H')) :
    H' = H ∧ ∃ rv, (results fn a.tmps).run P w = .ok rv w ∧ ∀ la', VR E la' v rv := by
  unfold fin at h
  obtain ⟨vs, rvs, h1, h2, h3, h4⟩ := resK_ok hi _ _ h
  cases hb : (one vs).back with
  | false => simp [hb] at h1
  | true =>
    simp only [hb, cond_true, Option.some.injEq, Prod.mk.injEq] at h1
    obtain ⟨rfl, rfl⟩ := h1
    refine ⟨rfl, oneV rvs, ?_, fun la' => ?_⟩
    · rw [results_eq, Array.mapM_eq_mapM_toList]
      simp only [Sem.run_bind, Sem.run_map, h2, Result.andThen_ok, Sem.run_pure]
      congr 1
      match rvs with
      | [] => rfl
      | [v] => rfl
      | _ :: _ :: _ => rfl
    · match vs, rvs, h3, h4, hb with
      | [], [], _, _, _ => exact .tup rfl fun i v hv => by simp at hv
      | [v], [rv], _, h4, hb =>
        obtain ⟨rv', k1, k2⟩ := h4 0 v rfl
        simp at k1
        subst k1
        show VR E la' v rv
        have hb : v.back = true := hb
        cases k2 with
        | g g => exact .g g
        | nl => exact .nl
        | lp t o => simp [AV.back, AV.glob, AV.cell] at hb
        | ls sz t n => simp [AV.back, AV.glob, AV.cell] at hb
        | agg g => exact .agg g
        | tup q1 q2 => exact .tup q1 q2
      | v1 :: v2 :: l, r1 :: r2 :: rl, h3, h4, hb =>
        refine .tup h3 fun i v hv => ?_
        obtain ⟨rv, k1, k2⟩ := h4 i v hv
        refine ⟨rv, k1, ?_⟩
        have hgl : v.glob = true := List.all_eq_true.1 hb v (List.mem_of_getElem? hv)
        cases k2 with
        | g g => exact .inl g
        | agg g => exact .inr ⟨_, _, rfl, rfl, g⟩
        | _ => simp [AV.glob, AV.cell] at hgl

theorem callF_ok {P : Program} (hn : P.funcs.all (fun fn => !(fn.name == "runtime.NumGoroutine")) = true) (hmix : P.follows .mixedOrders = true) (O : FuncId → Orc) : ∀ k, RecS P (callF P O k)
  | 0 => fun f args H v H' h => by simp [callF] at h
  | k + 1 => fun f args H v H' h E w rargs hr hl ha => by
    simp only [callF] at h
    split at h
    · rename_i fn hf
      split at h
      · rename_i c hc
        split at h
        · rename_i hle
          refine calls_of_wp hf hc ?_
          refine ex_ok (E0 := E) (H0 := H) (w0 := w) (la := fun _ => 0) (E := E) hn hmix (callF_ok hn hmix O k) c ?_ h ?_
          · refine ⟨hr, ⟨fun t l ht => ?_, fun t l b x ht => ?_, fun t t' l l' ht => ?_⟩, ⟨?_, fun i v hv => ?_⟩, Step.refl hr, rfl⟩
            · simp [List.getElem?_replicate] at ht
            · simp [List.getElem?_replicate] at ht
            · simp [List.getElem?_replicate] at ht
            · simp [hl]
            · by_cases hi : i < args.length
              · rw [List.getElem?_append_left hi] at hv
                obtain ⟨ru, k1, k2⟩ := ha i v hv
                have hi2 : i < rargs.length := by omega
                exact ⟨ru, by rw [Array.getElem?_append_left (by simpa using hi2)]; simpa using k1, k2 _⟩
              · rw [List.getElem?_append_right (by omega), List.getElem?_replicate] at hv
                split at hv
                · simp at hv
                  subst hv
                  refine ⟨Go.undef, ?_, .undef _⟩
                  rw [Array.getElem?_append_right (by simp; omega), Array.getElem?_replicate, if_pos (by simp; omega)]
                · simp at hv
          · intro e s' H'' E' la' a' w' h1 h2
            cases e with
            | normal =>
              obtain ⟨rfl, rv, k1, k2⟩ := res_ok h2 h1
              exact ⟨h2.df, rv, k1, E', rv, rfl, k2, h2.hr, h2.st⟩
            | exit id => simp at h1
            | ret =>
              obtain ⟨rfl, rv, k1, k2⟩ := res_ok h2 h1
              exact ⟨h2.df, rv, k1, E', rv, rfl, k2, h2.hr, h2.st⟩
        · simp at h
      · simp at h
    · simp at h

end Go.Proofs.Ytoalafkpkllebaa.Ab
