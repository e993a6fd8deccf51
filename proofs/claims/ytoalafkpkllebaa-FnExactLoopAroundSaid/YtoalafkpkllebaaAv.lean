/- The plain machine tells of the program: operations, regions, code, calls. No conditions. -/
import Derived.Test.YtoalafkpkllebaaAu
set_option linter.unusedVariables false
set_option linter.unusedSimpArgs false
namespace Go.Proofs.Ytoalafkpkllebaa.Ab
open Go

section
variable {P : Program} {E0 : En} {H0 : Hp} {w0 : World} {E : En} {la : Nat → Nat} {s : St} {H : Hp} {a : Act} {w : World}
variable {O : Orc} {rec : Rec} {o : Oper} {K : AV → St → Hp → An} {r : AV × Hp} {next : Act → World → Prop} {Q : Exit → Act → World → Prop}

theorem VR.cell_gr {k : IntKind} {n : Int} {rv : Value} (h : VR E la (.int k n) rv) : GR E (.int k n) rv := h.cellOf rfl

theorem op_call (hn : P.funcs.all (fun fn => !(fn.name == "runtime.NumGoroutine")) = true) (hrec : RecS P rec) {c : Call} (ho : o.op = .call c) (hi : Inv E0 H0 w0 E la s H a w) (h : exOp P O rec o s H K = some r) (hK : Nx E0 H0 w0 K r o a next) : o.wp P a w next Q := by
  simp only [exOp, ho] at h
  obtain ⟨callee, args, argTypes⟩ := c
  obtain ⟨hl, he⟩ := evs hi args.toList
  have hargs : args.map a.eval = ⟨args.toList.map a.eval⟩ := by apply Array.ext'; simp
  cases callee with
  | invoke x m => simp at h
  | value f =>
    simp only at h
    have hf := hi.ev f
    split at h
    · rename_i g cs hg
      rw [hg] at hf
      obtain ⟨vs, hfv, hgs⟩ := hf.fn_inv
      split at h
      · rename_i hlen
        refine callV_ok hn hrec hi h (args.toList.map a.eval ++ vs) ?_ ?_ ?_ hK
        · have := hgs.length
          simp at hlen ⊢
          omega
        · intro i u hu
          have hml : ((args.toList.map s.ev).zip argTypes.toList).length = (args.toList.map a.eval).length := by simp at hlen ⊢; omega
          by_cases hi' : i < (args.toList.map a.eval).length
          · rw [List.getElem?_append_left (by rw [List.length_map]; omega)] at hu
            simp only [List.getElem?_map, Option.map_eq_some_iff] at hu
            obtain ⟨p, h1, h2⟩ := hu
            subst h2
            obtain ⟨h3, h4⟩ := List.getElem?_zip_eq_some.1 h1
            obtain ⟨ru, k1, k2⟩ := he i p.1 h3
            exact ⟨ru, by rw [List.getElem?_append_left hi']; exact k1, fixN_vr _ k2⟩
          · have hml' : (((args.toList.map s.ev).zip argTypes.toList).map (fun p => fixN P p.2 p.1)).length = (args.toList.map a.eval).length := by rw [List.length_map]; exact hml
            rw [List.getElem?_append_right (by omega), hml'] at hu
            obtain ⟨ru, k1, k2⟩ := hgs.get _ u hu
            exact ⟨ru, by rw [List.getElem?_append_right (by omega)]; exact k1, .g k2⟩
        · simp only [execOp, ho, resolve, hfv, hargs, Deferred.ofValue, Sem.run_bind, Sem.run_pure, Result.andThen_ok, invoke]
          have e1 : (#[] ++ (⟨args.toList.map a.eval⟩ : Array Value)) ++ ⟨vs⟩ = ⟨args.toList.map a.eval ++ vs⟩ := by apply Array.ext'; simp
          rw [e1]
      · simp at h
    · simp at h
  | builtin b =>
    cases b with
    | len =>
      simp only at h
      split at h
      · rename_i sz y hv
        split at h
        · rename_i e ht
          obtain ⟨x, hx1, hx2⟩ : ∃ x, args.toList = [x] ∧ s.ev x = .sl sz y := by
            cases hl' : args.toList with
            | nil => simp [hl'] at hv
            | cons x l =>
              simp [hl'] at hv
              exact ⟨x, by rw [hv.2], hv.1⟩
          obtain ⟨t, ht1, ht2⟩ : ∃ t, argTypes.toList = [t] ∧ P.underlying t = some (.slice e) := by
            cases hl' : argTypes.toList with
            | nil => simp [hl'] at ht
            | cons x l =>
              simp [hl'] at ht
              exact ⟨x, by rw [ht.2], ht.1⟩
          have hxe := hi.ev x
          rw [hx2] at hxe
          have ha1 : args = #[x] := by apply Array.ext'; simpa using hx1
          have ha2 : argTypes = #[t] := by apply Array.ext'; simpa using ht1
          subst ha1
          subst ha2
          refine wp_val (w' := w) (rv := .int .i64 y.len) ?_ (hK _ _ _ _ _ _ _ h hi (.g (.int _ _)))
          cases hax : a.eval x with
          | slice ao l cp =>
            have hg := hxe.sl_inv
            rw [hax] at hg
            have hyl : l = y.len := by cases hg <;> first | rfl | (symm; assumption)
            subst hyl
            simp [execOp, ho, resolve, invoke, builtin, Builtin.len_, hax, run_underlying ht2, goInt]
          | _ => rw [hax] at hxe; cases hxe.sl_inv
        · simp at h
      · simp at h
    | max =>
      simp only at h
      split at h
      · rename_i k n l hv
        obtain ⟨u, h1, h⟩ := Option.bind_eq_some_iff.1 h
        cases hl' : args.toList with
        | nil => simp [hl'] at hv
        | cons x xs =>
          rw [hl'] at hv he
          simp only [List.map_cons, List.cons.injEq] at hv
          obtain ⟨hv1, hv2⟩ := hv
          have hx := hi.ev x
          rw [hv1] at hx
          obtain ⟨ru, k1, k2⟩ := foldI_mx (P := P) (la := la) l (xs.map a.eval) (.int k n) _ u hx.cell_gr (fun i v hv => by
            obtain ⟨ru, m1, m2⟩ := he (i + 1) v (by rw [List.map_cons, List.getElem?_cons_succ, hv2]; exact hv)
            exact ⟨ru, by simpa using m1, m2⟩) (by rw [← hv2]; simp) h1
          refine wp_val (w' := w) (rv := ru) ?_ (hK _ _ _ _ _ _ _ h hi (.g k2))
          have e1 : (args.map a.eval).toList = a.eval x :: xs.map a.eval := by rw [Array.toList_map, hl']; rfl
          simp only [execOp, ho, resolve, invoke, builtin, Sem.run_bind, Sem.run_pure, Result.andThen_ok, Builtin.max_, e1, k1]
      · simp at h
    | min =>
      simp only at h
      split at h
      · rename_i k n l hv
        obtain ⟨u, h1, h⟩ := Option.bind_eq_some_iff.1 h
        cases hl' : args.toList with
        | nil => simp [hl'] at hv
        | cons x xs =>
          rw [hl'] at hv he
          simp only [List.map_cons, List.cons.injEq] at hv
          obtain ⟨hv1, hv2⟩ := hv
          have hx := hi.ev x
          rw [hv1] at hx
          obtain ⟨ru, k1, k2⟩ := foldI_mn (P := P) (la := la) l (xs.map a.eval) (.int k n) _ u hx.cell_gr (fun i v hv => by
            obtain ⟨ru, m1, m2⟩ := he (i + 1) v (by rw [List.map_cons, List.getElem?_cons_succ, hv2]; exact hv)
            exact ⟨ru, by simpa using m1, m2⟩) (by rw [← hv2]; simp) h1
          refine wp_val (w' := w) (rv := ru) ?_ (hK _ _ _ _ _ _ _ h hi (.g k2))
          have e1 : (args.map a.eval).toList = a.eval x :: xs.map a.eval := by rw [Array.toList_map, hl']; rfl
          simp only [execOp, ho, resolve, invoke, builtin, Sem.run_bind, Sem.run_pure, Result.andThen_ok, Builtin.min_, e1, k1]
      · simp at h
    | append =>
      simp only at h
      split at h
      · rename_i x y t t' hxy htt
        split at h
        · rename_i htt'
          subst htt'
          split at h
          · rename_i e hu
            obtain ⟨ox, oy, hov, hox, hoy⟩ : ∃ ox oy, args.toList = [ox, oy] ∧ s.ev ox = x ∧ s.ev oy = y := by
              match hl' : args.toList with
              | [] => simp [hl'] at hxy
              | [_] => simp [hl'] at hxy
              | [p, q] => simp [hl'] at hxy; exact ⟨p, q, rfl, hxy.1, hxy.2⟩
              | _ :: _ :: _ :: _ => simp [hl'] at hxy
            have ha1 : args = #[ox, oy] := by apply Array.ext'; simpa using hov
            have ha2 : argTypes = #[t, t] := by apply Array.ext'; simpa using htt
            subst ha1
            subst ha2
            have hx := fixN_vr (P := P) t (hi.ev ox)
            have hy := hi.ev oy
            rw [hox] at hx
            rw [hoy] at hy
            have hrun : ∀ rv w', (Builtin.append_ #[t, t] o.type #[a.eval ox, a.eval oy]).run P w = .ok rv w' → (execOp a.eval o).run P w = .ok (.value rv) w' := by
              intro rv w' hr
              simp [execOp, ho, resolve, invoke, builtin, hr]
            split at h
            · rename_i sz z hz
              rw [hz] at hx
              split at h
              · rename_i hc
                obtain ⟨hsz, hby, hzc⟩ := hc
                obtain ⟨zl, hzc⟩ := Option.isSome_iff_exists.1 hzc
                obtain ⟨i, zv, hin, hzv, hs, _, _⟩ := zc_ok (E := E) hzc
                obtain ⟨hby', hsz'⟩ := by_of hin
                obtain ⟨n, vs, h, hsrc⟩ := src_ok hi hy h
                obtain ⟨⟨z', H'⟩, happ, h⟩ := Option.bind_eq_some_iff.1 h
                cases hall : vs.all AV.cell with
                | false => simp [hall] at h
                | true =>
                  simp only [hall, cond_true] at h
                  rw [hsz, hsz'] at happ hsrc hx
                  obtain ⟨E', rv, w', k1, k2, k3⟩ := app_ok hi (ty := o.type) hu hin hzv hs (by omega) hx.sl_inv happ hall hsrc
                  rw [hsz, hsz'] at h
                  exact wp_val (hrun _ _ k1) (hK _ _ _ _ _ _ _ h k2 (.g k3))
              · simp at h
            · rename_i sz y' m hz
              rw [hz] at hx
              split at h
              · rename_i hc
                obtain ⟨hsz, hby, hzc⟩ := hc
                obtain ⟨zl, hzc⟩ := Option.isSome_iff_exists.1 hzc
                obtain ⟨i, zv, hin, hzv, hs, _, _⟩ := zc_ok (E := E) hzc
                obtain ⟨hby', hsz'⟩ := by_of hin
                obtain ⟨l, hlo, h⟩ := Option.bind_eq_some_iff.1 h
                obtain ⟨n, vs, h, hsrc⟩ := src_ok hi hy h
                obtain ⟨⟨z', H'⟩, happ, h⟩ := Option.bind_eq_some_iff.1 h
                cases hall : (l.all AV.cell && vs.all AV.cell) with
                | false => simp [hall] at h
                | true =>
                  simp only [hall, cond_true] at h
                  rw [Bool.and_eq_true] at hall
                  rw [hsz, hsz'] at happ hsrc
                  obtain ⟨E', rv, w', k1, k2, k3⟩ := appl_ok hi (ty := o.type) hu hin hzv hs (by omega) hlo happ hall.2 hsrc
                  rw [← hx.ls_inv] at k1
                  rw [hsz, hsz'] at h
                  exact wp_val (hrun _ _ k1) (hK _ _ _ _ _ _ _ h k2 (.g k3))
              · simp at h
            · simp at h
          · simp at h
        · simp at h
      · simp at h
    | _ => simp at h
end

end Go.Proofs.Ytoalafkpkllebaa.Ab
