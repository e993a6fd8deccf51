/- Functions of the program, and what a call comes to. No conditions. -/
import Derived.Test.YtncmneliinbjdaaPMkx0
import Derived.Test.YtncmneliinbjdaaPMkx4
namespace Go.Proofs.Ytncmneliinbjdaa.PMk
open Go.RowKit Go.Proofs.YtncmneliinbjdaaW.PrintWords Go.Proofs.YtncmneliinbjdaaW.PrintLast Go.Proofs.YtncmneliinbjdaaW.PrintMore
set_option linter.unusedVariables false
set_option linter.unusedSimpArgs false

/-! ### laws_markBoolSS: function 43 -/
def laws_markBoolSS.l0 : Nat → List (List Bool) → Int → Int → Option (Int × List (List Bool))
 | 0, _, _, _ => none
 | k + 1, x0, x1, x5 => if x5 < (x0.length : Int) then (if 0 ≤ x5 then ((laws_markBoolS.f k (x0.getD x5.toNat []) x1).bind fun t => (laws_markBoolSS.l0 k (x0.set x5.toNat t.2) t.1 (wrap64 (x5 + 1)))) else (none)) else (some (x1, x0))
def laws_markBoolSS.f (k : Nat) (l0 : List (List Bool)) (a1 : Int) : Option (Int × List (List Bool)) := laws_markBoolSS.l0 k l0 a1 0
/-- Behind an event on row i alone. -/
theorem laws_markBoolSS.inner {W W1 : World} {base : Nat} {ok oki : Nat → Prop} {g n cap : Nat} {xs : List (List Bool)} {i : Int} {v : Value} (hH : Kd.H (Kd.slice 4 Kd.bool) 22 W base ok (.slice (some ⟨g, 0, none⟩) n cap) xs i oki [v]) {ys : List Bool}
  (hk : Kept W W1 oki) (hR : Kd.R Kd.bool 4 W1 base oki v ys) : Kd.S (Kd.slice 4 Kd.bool) 22 W1 base ok (.slice (some ⟨g, 0, none⟩) n cap) (xs.set i.toNat ys) :=
 Kd.H_back (Kd.H_step hH (fun k _ hn hlt => hk.2 k hlt hn)) (Kd.M_row hR) (fun _ h => h)
theorem laws_markBoolSS.mono_l : ∀ k, (∀ y0 y1 y2, LeO (laws_markBoolSS.l0 k y0 y1 y2) (laws_markBoolSS.l0 (k + 1) y0 y1 y2))
 | 0 => fun _ _ _ r h => by simp [laws_markBoolSS.l0] at h
 | k + 1 => by
  have ih0 := laws_markBoolSS.mono_l k
  intro y0 y1 y2
  unfold laws_markBoolSS.l0
  exact LeO.ite (LeO.ite (LeO.bind (laws_markBoolS.mono _ _ _) (fun _ => ih0 _ _ _)) (LeO.refl _)) (LeO.refl _)
theorem laws_markBoolSS.mono : ∀ a0 a1 k, LeO (laws_markBoolSS.f k a0 a1) (laws_markBoolSS.f (k + 1) a0 a1) := fun _ _ k => laws_markBoolSS.mono_l k _ _ _
set_option maxHeartbeats 8000000 in
set_option maxRecDepth 100000 in
theorem laws_markBoolSS.calls (k : Nat) (P0_ : Nat → Prop) (u9000_ : Value) (l0 : List (List Bool)) (a1 : Int) (r1 : Int) (r2 : List (List Bool)) (w0 w : World) (hB : Below w0.heap.size w0 w) (ho0 : Kd.S (Kd.slice 4 Kd.bool) 22 w w0.heap.size P0_ u9000_ l0) (h : laws_markBoolSS.f k l0 a1 = some (r1, r2)) :
  Calls Try.prog 43 #[u9000_, .int .i64 a1] w fun e w' => e = .returned (.int .i64 r1) ∧ Kd.S (Kd.slice 4 Kd.bool) 22 w' w0.heap.size P0_ u9000_ r2 ∧ Below w0.heap.size w0 w' ∧ Kept w w' P0_ := by
 obtain ⟨aa, ca, ea⟩ := Kd.S_slice ho0
 subst ea
 have HO0 := asd ho0
 clear ho0
 have HK := asd (Kept.refl w P0_)
 have HB := asd hB
 clear hB
 have H' : Aside0 (laws_markBoolSS.l0 k l0 a1 0 = some (r1, r2)) := ⟨h⟩
 clear h
 go_enter Try.func43, Try.ntmps43
 go_wp2
 go_loopg [1, 5] k (fun kq v1 v5 w' => ∃ (x0 : List (List Bool)) (x1 : Int) (x5 : Int), v1 = .int .i64 x1 ∧ v5 = .int .i64 x5 ∧ Aside0 (laws_markBoolSS.l0 kq x0 x1 x5 = some (r1, r2)) ∧ Aside0 (kq ≤ k) ∧ Aside0 (x0.length = l0.length) ∧ Aside0 (Kd.S (Kd.slice 4 Kd.bool) 22 w' w0.heap.size P0_ (.slice aa l0.length ca) x0) ∧ Aside0 (Kept w w' P0_) ∧ Aside0 (Below w0.heap.size w0 w'))
 case atStart => exact ⟨l0, a1, 0, rfl, rfl, H', ⟨Nat.le_refl _⟩, ⟨rfl⟩, HO0, HK, HB⟩
 case round =>
  clear H' HO0 HK HB
  obtain ⟨x0, x1, x5, rfl, rfl, HA, HK1, HL, HO, HK, HB⟩ := hrel
  cases gk with
  | zero => exact absurd HA.out (by simp [laws_markBoolSS.l0])
  | succ k1 =>
   have H := HA.out
   clear HA
   simp only [laws_markBoolSS.l0] at H
   have hlen := HL.out
   by_cases c3 : x5 < (x0.length : Int)
   ·rw [if_pos c3] at H
    have c3b0 : decide (x5 < (l0.length : Int)) = true := decide_eq_true (by omega)
    by_cases c4 : 0 ≤ x5
    ·rw [if_pos c4] at H
     have c4b0 : decide (0 ≤ x5) = true := decide_eq_true c4
     obtain ⟨⟨t1, t2⟩, A10, H⟩ := Option.bind_eq_some_iff.mp H
     have H' := asd H
     clear H
     have HO2 := asd HO.out
     obtain ⟨g, cap, eu, gb, gl, gc⟩ := Kd.S_form HO.out (by omega)
     injection eu with e1 e2 e3
     subst e1 e3
     have GB := asd gb
     clear gb gl gc e2
     obtain ⟨oki, c, hcl, hM, hcc, hfr, hoki, hH⟩ := Kd.S_elem HO.out ([] : List Bool) x5 c4 (by omega)
     generalize x0.getD x5.toNat [] = row at A10 hM
     have A1 := asd A10
     clear A10
     obtain ⟨v, rfl, g1⟩ := hM
     have hx0 := hcc 0 v rfl
     have hf0 := hfr 0
     (try simp only [show ((Kd.slice 4 Kd.bool)).sz = 1 from rfl, Nat.mul_one, Nat.add_zero] at hx0)
     (try simp only [show ((Kd.slice 4 Kd.bool)).sz = 1 from rfl, Nat.mul_one, Nat.add_zero] at hf0)
     have G1 := asd g1
     have HH := asd hH
     have HOKI := asd hoki
     clear g1 hH hoki hcc hfr hcl HO2
     have p5 := eq_true c4
     have q5 := eq_true (show x5 < (l0.length : Int) by omega)
     have C4 := asd c4
     clear c3 c4
     obtain ⟨ao, co, eo⟩ := Kd.R_slice G1.out
     subst eo
     go_wp2_with (first | ((with_reducible refine gate_callee (f := 15) rfl ?_); refine goesL_ (some 17) rfl rfl Try.func15 (by kernel_rfl) rfl #[.slice ao row.length co, .int .i64 x1] rfl (by (try simp only [List.map_toArray, List.map_cons, List.map_nil]); first | done | rfl | (simp only [List.length_drop, List.length_take]; rfl)) ?_; (with_reducible refine (laws_markBoolS.calls k1 (fun k_ => some k_ = (.slice ao row.length co : Value).ownBlock) _ _ _ t1 t2 w0 _ HB.out (Kd.R_tight rfl G1.out) A1.out).mono ?_); rintro e w5 ⟨rfl, hy, hb, hkp⟩; refine ⟨_, rfl, ?_⟩; have n0_ := asd (laws_markBoolSS.inner HH.out (hkp.mono (fun k_ e_ => G1.out.1 k_ e_.symm)) (Kd.R_mono (Kd.R_tight rfl hy) (fun k_ e_ => G1.out.1 k_ e_.symm))); have n1_ := asd (HK.out.then_ hkp (fun k_ e_ => .inl (HOKI.out k_ (G1.out.1 k_ e_.symm)).1)); have n2_ := asd hb; clear hy hb hkp HB HK HO HH G1; have HO := n0_; have HK := n1_; have HB := n2_; clear n0_ n1_ n2_))
     go_roundg k1
     case measure => have := HK1.out; omega
     case rel => exact ⟨_, t1, (wrap64 (x5 + 1)), rfl, rfl, H', ⟨by have := HK1.out; omega⟩, ⟨by have := HL.out; simp only [List.length_set]; omega⟩, HO, HK, HB⟩
    ·rw [if_neg c4] at H
     exact absurd H (by simp)
   ·rw [if_neg c3] at H
    have c3b0 : decide (x5 < (l0.length : Int)) = false := decide_eq_false (by omega)
    clear c3
    obtain ⟨rfl, rfl⟩ := Prod.mk.inj (Option.some.inj H)
    clear H
    go_wp2
    go_ret
    exact ⟨rfl, HO.out, HB.out, HK.out⟩

end Go.Proofs.Ytncmneliinbjdaa.PMk
