/- The plain machine's operations do what the program's do: made slices, windows, calls; all operations. No conditions. -/
import Derived.Test.YtoalafkpkllebaaAt
set_option linter.unusedVariables false
set_option linter.unusedSimpArgs false
namespace Go.Proofs.Ytoalafkpkllebaa.Ab
open Go

section
variable {P : Program} {E0 : En} {H0 : Hp} {w0 : World} {E : En} {la : Nat → Nat} {s : St} {H : Hp} {a : Act} {w : World}
variable {O : Orc} {rec : Rec} {o : Oper} {K : AV → St → Hp → An} {r : AV × Hp} {next : Act → World → Prop} {Q : Exit → Act → World → Prop}

theorem op_makeSlice {t : TypeId} {x y : Operand} (ho : o.op = .makeSlice t x y) (hi : Inv E0 H0 w0 E la s H a w) (h : exOp P O rec o s H K = some r) (hK : Nx E0 H0 w0 K r o a next) : o.wp P a w next Q := by
  simp only [exOp, ho] at h
  have hx := hi.ev x
  have hy := hi.ev y
  split at h
  · rename_i e n m hu hxe hye
    rw [hxe] at hx
    rw [hye] at hy
    split at h
    · rename_i hb
      obtain ⟨h0, hnm, hm, hby, hpos⟩ := hb
      obtain ⟨z, hz, h⟩ := Option.bind_eq_some_iff.1 h
      split at h
      · rename_i hzl
        obtain ⟨i, zv, hin, hzv, hs, hg, hc⟩ := zc_ok (E := E) hz
        obtain ⟨hby', hsz⟩ := by_of hin
        have hbb : (i.bytes : Int) * m ≤ 281474976710656 := by
          have h1 : (i.bytes : Int) ≤ 8192 := by omega
          have h2 := Int.mul_le_mul h1 hm (by omega) (by omega)
          omega
        have hrun := run_make (P := P) w t e i zv hu hin hzv .i64 .i64 n m h0 hnm hbb (by omega)
        have hnm' : n.toNat ≤ m.toNat := by omega
        have hk : 0 < i.size := by omega
        obtain ⟨E', k1, k2, k3, k4, k5⟩ := hi.makeH ((List.replicate n.toNat z).flatten) (madeCells zv.cells (m.toNat * i.size)) e (by
            rw [flat_len, hzl, size_madeCells, hsz]; exact Nat.mul_le_mul_right _ hnm') (fun j v hv => by
          have hj : j < n.toNat * z.length := by
            have := (List.getElem?_eq_some_iff.1 hv).1
            rwa [flat_len] at this
          rw [flat_get z (by omega) _ _ hj] at hv
          obtain ⟨rv, m1, m2⟩ := hg.get _ v hv
          refine ⟨rv, ?_, m2⟩
          have hj2 : j < m.toNat * i.size := Nat.lt_of_lt_of_le hj (by rw [hzl, hsz]; exact Nat.mul_le_mul_right _ hnm')
          have hmd : j % i.size < zv.cells.size := by rw [hs]; exact Nat.mod_lt _ hk
          rw [hzl, hsz] at m1
          simp only [madeCells, Array.getElem?_map, Array.getElem?_range, if_pos hj2, Option.map_some, hs]
          rw [getElem!_pos zv.cells _ hmd]
          simpa [hmd] using m1)
        have g := GR.sl (E := E') (szOf P e) ⟨false, H.length, 0, n.toNat⟩ m.toNat rfl (by show H.length < E'.nb; omega) hnm' (by
          show 0 + _ * _ ≤ E'.si (E'.be H.length)
          rw [k3, k5, size_madeCells, hsz]; omega)
        have e2 : (⟨E'.be (Sl.mk false H.length 0 n.toNat).blk, (Sl.mk false H.length 0 n.toNat).off, none⟩ : Addr) = ⟨w.heap.size, 0, none⟩ := by
          show (⟨E'.be H.length, 0, none⟩ : Addr) = _
          rw [k3]
        rw [e2] at g
        refine wp_val ?_ (hK _ _ _ _ _ _ _ h k1 (.g g))
        simp only [execOp, ho, hx.int_inv, hy.int_inv, Sem.run_bind, hrun, Result.andThen_ok, Sem.run_pure]
      · simp at h
    · simp at h
  · simp at h

theorem sliK_ok (hi : Inv E0 H0 w0 E la s H a w) {x : Option Operand} {d : Int} {K : Int → An} {r : AV × Hp} (h : sliK s x d K = some r) :
    ∃ n, K n = some r ∧ ((x = none ∧ n = d) ∨ ∃ y, x = some y ∧ a.eval y = .int .i64 n) := by
  unfold sliK at h
  split at h
  · exact ⟨d, h, .inl ⟨rfl, rfl⟩⟩
  · rename_i y
    split at h
    · rename_i n hn
      have hy := hi.ev y
      rw [hn] at hy
      exact ⟨n, h, .inr ⟨y, rfl, hy.int_inv⟩⟩
    · simp at h
theorem bound_ok {n : Int} {y : Nat} {code : BoundsCode} (h0 : 0 ≤ n) (h1 : n ≤ y) : (Instr.sliceBound (.int .i64 n) y code).run P w = .ok n.toNat w := by
  simp [Instr.sliceBound, asIntOf, h0, h1]

theorem op_slice {t : TypeId} {x : Operand} {lo hi' mx : Option Operand} (ho : o.op = .slice t x lo hi' mx) (hi : Inv E0 H0 w0 E la s H a w) (h : exOp P O rec o s H K = some r) (hK : Nx E0 H0 w0 K r o a next) : o.wp P a w next Q := by
  simp only [exOp, ho] at h
  have hx := hi.ev x
  split at h
  · rename_i e sz y hu hxe
    rw [hxe] at hx
    split at h
    · rename_i hsz
      obtain ⟨p, h, hp⟩ := sliK_ok hi (x := lo) (d := 0) h
      obtain ⟨q, h, hq⟩ := sliK_ok hi (x := hi') (d := y.len) h
      obtain ⟨m, h, hm⟩ := sliK_ok hi (x := mx) (d := q) h
      split at h
      · rename_i hb
        obtain ⟨⟨hp0, hpq, hql, hmq⟩, hpos, hmh⟩ := hb
        obtain ⟨j, hj⟩ := info_pos hpos
        -- the bounds there
        have bounds : ∀ (cap : Nat), y.len ≤ cap → ∃ mm, (Instr.sliceBounds true y.len cap (lo.map a.eval) (hi'.map a.eval) (mx.map a.eval)).run P w = .ok (p.toNat, q.toNat, mm) w ∧ q.toNat ≤ mm ∧ mm ≤ cap := by
          intro cap hcap
          have blo : ∀ c, (match lo.map a.eval with
              | some v => Instr.sliceBound v q.toNat c
              | none => pure 0 : Sem Nat).run P w = .ok p.toNat w := by
            intro c
            rcases hp with ⟨rfl, rfl⟩ | ⟨z, rfl, hz⟩
            · rfl
            · simp only [Option.map_some, hz]; exact bound_ok hp0 (by omega)
          rcases hm with ⟨rfl, _⟩ | ⟨z, rfl, hz⟩
          · refine ⟨cap, ?_, by omega, Nat.le_refl _⟩
            rcases hq with ⟨rfl, rfl⟩ | ⟨z, rfl, hz⟩
            · have hbl := blo
              simp only [Int.toNat_natCast] at hbl
              rcases hp with ⟨rfl, rfl⟩ | ⟨z, rfl, hz⟩
              · simp [Instr.sliceBounds]
              · simp only [Instr.sliceBounds, Option.map_none, Option.map_some, Sem.run_bind, Sem.run_pure, Result.andThen_ok, hz]
                rw [bound_ok hp0 hpq]
                simp
            · have hb2 : (Instr.sliceBound (.int .i64 q) cap .sliceAcap).run P w = .ok q.toNat w := bound_ok (by omega) (by omega)
              rcases hp with ⟨rfl, rfl⟩ | ⟨z', rfl, hz'⟩
              · simp [Instr.sliceBounds, hz, hb2]
              · have hb3 : (Instr.sliceBound (.int .i64 p) q.toNat .sliceB).run P w = .ok p.toNat w := bound_ok hp0 (by omega)
                simp [Instr.sliceBounds, hz, hz', hb2, hb3]
          · subst hmq
            have hb1 : (Instr.sliceBound (.int .i64 m) cap .slice3Acap).run P w = .ok m.toNat w := bound_ok (by omega) (by omega)
            refine ⟨m.toNat, ?_, Nat.le_refl _, by omega⟩
            rcases hq with ⟨rfl, rfl⟩ | ⟨z', rfl, hz'⟩
            · simp at hmh
            · have hb2 : (Instr.sliceBound (.int .i64 m) m.toNat .slice3B).run P w = .ok m.toNat w := bound_ok (by omega) (by omega)
              rcases hp with ⟨rfl, rfl⟩ | ⟨z'', rfl, hz''⟩
              · simp [Instr.sliceBounds, hz, hz', hb1, hb2]
              · have hb3 : (Instr.sliceBound (.int .i64 p) m.toNat .slice3C).run P w = .ok p.toNat w := bound_ok hp0 (by omega)
                simp [Instr.sliceBounds, hz, hz', hz'', hb1, hb2, hb3]
        -- the slice there
        have hrun : ∀ (ao : Option Addr) (cap mm : Nat), a.eval x = .slice ao y.len cap → (Instr.sliceBounds true y.len cap (lo.map a.eval) (hi'.map a.eval) (mx.map a.eval)).run P w = .ok (p.toNat, q.toNat, mm) w →
            (execOp a.eval o).run P w = .ok (.value (.slice (if mm = p.toNat then ao else ao.map (·.add (p.toNat * szOf P e))) (q.toNat - p.toNat) (mm - p.toNat))) w := by
          intro ao cap mm hax hbd
          have e1 : Instr.sliceAt t (.slice ao y.len cap) (lo.map a.eval) (hi'.map a.eval) (mx.map a.eval) = _ := rfl
          simp [execOp, ho, Instr.sliceAt, hax, run_underlying hu, Instr.slice, hbd, run_sz hj]
        have hln : (q - p).toNat = q.toNat - p.toNat := by omega
        cases hax : a.eval x with
        | slice ao l c =>
          have hxs := hx.sl_inv
          rw [hax] at hxs
          cases hxs with
          | slnil _ _ h1 h2 =>
            obtain ⟨mm, k1, k2, k3⟩ := bounds 0 (by omega)
            have hr := hrun none 0 mm (by rw [hax, h2]) k1
            refine wp_val hr (hK _ _ _ _ _ _ _ h hi (.g ?_))
            have e1 : q.toNat - p.toNat = 0 := by omega
            have e2 : mm - p.toNat = 0 := by omega
            simp only [e1, e2, Option.map_none, ite_self]
            exact .slnil _ _ h1 (by show (q - p).toNat = 0; omega)
          | slz _ _ b h1 h2 =>
            obtain ⟨mm, k1, k2, k3⟩ := bounds 0 (by omega)
            have hr := hrun (some b) 0 mm (by rw [hax, h2]) k1
            refine wp_val hr (hK _ _ _ _ _ _ _ h hi (.g ?_))
            have e1 : q.toNat - p.toNat = 0 := by omega
            have e2 : mm - p.toNat = 0 := by omega
            have e3 : mm = p.toNat := by omega
            simp only [e1, e2, if_pos e3]
            exact .slz _ _ b h1 (by show (q - p).toNat = 0; omega)
          | sl _ _ cap h1 h2 h3 h4 =>
            obtain ⟨mm, k1, k2, k3⟩ := bounds c h3
            have hr := hrun _ c mm hax k1
            refine wp_val hr (hK _ _ _ _ _ _ _ h hi (.g ?_))
            by_cases hmp : mm = p.toNat
            · have e1 : q.toNat - p.toNat = 0 := by omega
              have e2 : mm - p.toNat = 0 := by omega
              simp only [e1, e2, if_pos hmp]
              exact .slz _ _ _ h1 (by show (q - p).toNat = 0; omega)
            · simp only [if_neg hmp, Option.map_some, Addr.add_mid, ← hln, ← hsz]
              refine GR.sl sz ⟨y.nil, y.blk, y.off + p.toNat * sz, (q - p).toNat⟩ (mm - p.toNat) h1 h2 (by show (q - p).toNat ≤ _; omega) ?_
              show y.off + p.toNat * sz + (mm - p.toNat) * sz ≤ E.si (E.be y.blk)
              have : p.toNat * sz + (mm - p.toNat) * sz ≤ c * sz := by
                rw [← Nat.add_mul]; exact Nat.mul_le_mul_right _ (by omega)
              omega
        | _ => rw [hax] at hx; cases hx.sl_inv
      · simp at h
    · simp at h
  · simp at h
end

end Go.Proofs.Ytoalafkpkllebaa.Ab
