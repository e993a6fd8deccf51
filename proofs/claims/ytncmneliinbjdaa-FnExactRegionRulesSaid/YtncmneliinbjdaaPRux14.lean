/- Functions of the program as plain Lean functions, and what a call of each comes to. No conditions. -/
import Derived.Test.YtncmneliinbjdaaPRux0
import Derived.Test.YtncmneliinbjdaaPRux2
namespace Go.Proofs.Ytncmneliinbjdaa.PRu
open Go.RowKit Go.Proofs.YtncmneliinbjdaaW.PrintWords Go.Proofs.YtncmneliinbjdaaW.PrintLast Go.Proofs.YtncmneliinbjdaaW.PrintMore
attribute [local go_sem] max2_int min2_int max_two min_two max_three min_three max_four min_four   -- for this text's walks alone
set_option linter.unusedVariables false
set_option linter.unusedSimpArgs false

/-! ### laws_markRuleS: function 32 -/
def laws_markRuleS.l0 : Nat → List S61 → Int → Int → Option (Int × List S61)
  | 0, _, _, _ => none
  | k + 1, x0, x1, x5 => if x5 < (x0.length : Int) then (if 0 ≤ x5 then ((laws_markIntS.f k (rd_T61 x0 x5).f1 (wrap64 (x1 + 1))).bind fun t => (laws_markRuleS.l0 k (x0.set x5.toNat ⟨x1, t.2, t.1⟩) (wrap64 (t.1 + 1)) (wrap64 (x5 + 1)))) else (none)) else (some (x1, x0))
def laws_markRuleS.f (k : Nat) (l0 : List S61) (a1 : Int) : Option (Int × List S61) := laws_markRuleS.l0 k l0 a1 0
/-- lemmas on rows of rules -/
theorem rule_cells {W : World} {base : Nat} {ok : Nat → Prop} {g n cap : Nat} {xs : List S61} (h : Kd.S k61 61 W base ok (.slice (some ⟨g, 0, none⟩) n cap) xs) (i : Int) (h0 : 0 ≤ i) (h1 : i < n) :
    ∃ (oki : Nat → Prop) (v : Value), (Kd.int .i64).R 3 W base oki v (rd_T61 xs i).f1 ∧ W.cell? ⟨g, i.toNat * 3, none⟩ = some (.int .i64 (rd_T61 xs i).f0) ∧ W.cell? ⟨g, i.toNat * 3 + 1, none⟩ = some v ∧ W.cell? ⟨g, i.toNat * 3 + 2, none⟩ = some (.int .i64 (rd_T61 xs i).f2) ∧ (∀ j, W.frozen? ⟨g, i.toNat * 3 + j, none⟩ = false) ∧ (∀ k, oki k → ok k ∧ k ≠ g) ∧
      Kd.H k61 61 W base ok (.slice (some ⟨g, 0, none⟩) n cap) xs i oki [.int .i64 (rd_T61 xs i).f0, v, .int .i64 (rd_T61 xs i).f2] := by
  obtain ⟨oki, c, hcl, hM, hcc, hfr, hoki, hH⟩ := Kd.S_elem h z61 i h0 h1
  obtain ⟨v, rfl, g1⟩ := k61_openM hM
  exact ⟨oki, v, g1, hcc 0 _ rfl, hcc 1 _ rfl, hcc 2 _ rfl, hfr, hoki, hH⟩
theorem rule_put0 {W : World} {base : Nat} {ok : Nat → Prop} {g n cap : Nat} {xs : List S61} (h : Kd.S k61 61 W base ok (.slice (some ⟨g, 0, none⟩) n cap) xs) (i : Int) (h0 : 0 ≤ i) (h1 : i < n) (u : Int) :
    Kd.S k61 61 (W.setCell ⟨g, i.toNat * 3, none⟩ (.int .i64 u)) base ok (.slice (some ⟨g, 0, none⟩) n cap) (xs.set i.toNat ⟨u, (rd_T61 xs i).f1, (rd_T61 xs i).f2⟩) ∧ W.grownBy (W.setCell ⟨g, i.toNat * 3, none⟩ (.int .i64 u)) (some g) := by
  obtain ⟨oki, v, g1, _, _, _, _, hoki, hH⟩ := rule_cells h i h0 h1
  exact Kd.S_seg (okg := fun _ => False) (okp := oki) (seg := [.int .i64 u]) (j := 0) (x' := ⟨u, (rd_T61 xs i).f1, (rd_T61 xs i).f2⟩) (Kd.H_mono hH (fun k hk => ⟨hk, fun h => h⟩)) h0 h1 (show _ ≤ 3 by simp) (k61_mkM W base oki ⟨u, (rd_T61 xs i).f1, (rd_T61 xs i).f2⟩ g1) (fun k hk => .inl hk) (fun k hk => hk.elim)
theorem rule_put2 {W : World} {base : Nat} {ok : Nat → Prop} {g n cap : Nat} {xs : List S61} (h : Kd.S k61 61 W base ok (.slice (some ⟨g, 0, none⟩) n cap) xs) (i : Int) (h0 : 0 ≤ i) (h1 : i < n) (u : Int) :
    Kd.S k61 61 (W.setCell ⟨g, i.toNat * 3 + 2, none⟩ (.int .i64 u)) base ok (.slice (some ⟨g, 0, none⟩) n cap) (xs.set i.toNat ⟨(rd_T61 xs i).f0, (rd_T61 xs i).f1, u⟩) ∧ W.grownBy (W.setCell ⟨g, i.toNat * 3 + 2, none⟩ (.int .i64 u)) (some g) := by
  obtain ⟨oki, v, g1, _, _, _, _, hoki, hH⟩ := rule_cells h i h0 h1
  exact Kd.S_seg (okg := fun _ => False) (okp := oki) (seg := [.int .i64 u]) (j := 2) (x' := ⟨(rd_T61 xs i).f0, (rd_T61 xs i).f1, u⟩) (Kd.H_mono hH (fun k hk => ⟨hk, fun h => h⟩)) h0 h1 (show _ ≤ 3 by simp) (k61_mkM W base oki ⟨(rd_T61 xs i).f0, (rd_T61 xs i).f1, u⟩ g1) (fun k hk => .inl hk) (fun k hk => hk.elim)
/-- Behind an event on element i's inner row alone. -/
theorem rule_inner {W W1 : World} {base : Nat} {ok oki : Nat → Prop} {g n cap : Nat} {xs : List S61} {i : Int} {f0 f2 : Int} {v : Value} (hH : Kd.H k61 61 W base ok (.slice (some ⟨g, 0, none⟩) n cap) xs i oki [.int .i64 f0, v, .int .i64 f2]) {ys : List Int}
    (hk : Kept W W1 oki) (hR : (Kd.int .i64).R 3 W1 base oki v ys) : Kd.S k61 61 W1 base ok (.slice (some ⟨g, 0, none⟩) n cap) (xs.set i.toNat ⟨f0, ys, f2⟩) :=
  Kd.H_back (Kd.H_step hH (fun k _ hn hlt => hk.2 k hlt hn)) (k61_mkM W1 base oki ⟨f0, ys, f2⟩ hR) (fun _ h => h)
/-- The first field of element i is written, its row is lent. -/
theorem rule_open {W : World} {base : Nat} {ok : Nat → Prop} {g n cap : Nat} {xs : List S61} (h : Kd.S k61 61 W base ok (.slice (some ⟨g, 0, none⟩) n cap) xs) (i : Int) (h0 : 0 ≤ i) (h1 : i < n) (u : Int) :
    ∃ (oki : Nat → Prop) (v : Value), W.cell? ⟨g, i.toNat * 3, none⟩ = some (.int .i64 (rd_T61 xs i).f0) ∧ W.cell? ⟨g, i.toNat * 3 + 1, none⟩ = some v ∧ W.frozen? ⟨g, i.toNat * 3, none⟩ = false ∧ (∀ k, oki k → ok k ∧ k ≠ g) ∧
      (Kd.int .i64).R 3 (W.setCell ⟨g, i.toNat * 3, none⟩ (.int .i64 u)) base oki v (rd_T61 xs i).f1 ∧ W.grownBy (W.setCell ⟨g, i.toNat * 3, none⟩ (.int .i64 u)) (some g) ∧
      Kd.H k61 61 (W.setCell ⟨g, i.toNat * 3, none⟩ (.int .i64 u)) base ok (.slice (some ⟨g, 0, none⟩) n cap) xs i oki [.int .i64 u, v, .int .i64 (rd_T61 xs i).f2] := by
  obtain ⟨oki, v, g1, hx0, hx1, _, hf, hoki, hH⟩ := rule_cells h i h0 h1
  have hs := Kd.H_seg hH h0 h1 (seg := [.int .i64 u]) (j := 0) (show _ ≤ 3 by simp) (by intro q hq; simp at hq; subst hq; rfl)
  exact ⟨oki, v, hx0, hx1, hf 0, hoki, Kd.R_step g1 (fun k hk _ => Below.heap_setCell W ⟨g, i.toNat * 3, none⟩ (.int .i64 u) k (hoki k hk).2), hs.2, hs.1⟩
theorem rd_set_self (xs : List S61) (i : Int) (x : S61) (h0 : 0 ≤ i) (h1 : i < xs.length) : rd_T61 (xs.set i.toNat x) i = x := by
  have : i.toNat < xs.length := by omega
  simp [rd_T61, List.getD_eq_getElem?_getD, this]
theorem laws_markRuleS.mono_l : ∀ k, (∀ y0 y1 y2, LeO (laws_markRuleS.l0 k y0 y1 y2) (laws_markRuleS.l0 (k + 1) y0 y1 y2))
  | 0 => fun _ _ _ r h => by simp [laws_markRuleS.l0] at h
  | k + 1 => by
    have ih0 := laws_markRuleS.mono_l k
    intro y0 y1 y2
    unfold laws_markRuleS.l0
    exact LeO.ite (LeO.ite (LeO.bind (laws_markIntS.mono _ _ _) (fun _ => ih0 _ _ _)) (LeO.refl _)) (LeO.refl _)
theorem laws_markRuleS.mono : ∀ a0 a1 k, LeO (laws_markRuleS.f k a0 a1) (laws_markRuleS.f (k + 1) a0 a1) := fun _ _ k => laws_markRuleS.mono_l k _ _ _
set_option maxHeartbeats 8000000 in
set_option maxRecDepth 100000 in
theorem laws_markRuleS.calls (k : Nat) (P0_ : Nat → Prop) (u9000_ : Value) (l0 : List S61) (a1 : Int) (r1 : Int) (r2 : List S61) (w0 w : World) (hB : Below w0.heap.size w0 w) (ho0 : Kd.S k61 61 w w0.heap.size P0_ u9000_ l0) (h : laws_markRuleS.f k l0 a1 = some (r1, r2)) :
    Calls Try.prog 32 #[u9000_, .int .i64 a1] w fun e w' => e = .returned (.int .i64 r1) ∧ Kd.S k61 61 w' w0.heap.size P0_ u9000_ r2 ∧ Below w0.heap.size w0 w' ∧ Kept w w' P0_ := by
  have HO0 := Aside0.mk ho0
  clear ho0
  have HK := Aside0.mk (Kept.refl w P0_)
  have HB := Aside0.mk hB
  clear hB
  have H' : Aside0 (laws_markRuleS.l0 k l0 a1 0 = some (r1, r2)) := ⟨h⟩
  clear h
  go_enter Try.func32, Try.ntmps32
  go_wp2
  go_loopg [1, 5] k (fun kq v1 v5 w' => ∃ (x0 : List S61) (x1 : Int) (x5 : Int), v1 = .int .i64 x1 ∧ v5 = .int .i64 x5 ∧ Aside0 (laws_markRuleS.l0 kq x0 x1 x5 = some (r1, r2)) ∧ Aside0 (kq ≤ k) ∧ Aside0 (Kd.S k61 61 w' w0.heap.size P0_ u9000_ x0) ∧ Aside0 (Kept w w' P0_) ∧ Aside0 (Below w0.heap.size w0 w'))
  case atStart => exact ⟨l0, a1, 0, rfl, rfl, H', ⟨Nat.le_refl _⟩, HO0, HK, HB⟩
  case round =>
    clear H' HO0 HK HB
    obtain ⟨x0, x1, x5, rfl, rfl, HA, HK1, HO, HK, HB⟩ := hrel
    cases gk with
    | zero => exact absurd HA.out (by simp [laws_markRuleS.l0])
    | succ k1 =>
      have H := HA.out
      clear HA
      simp only [laws_markRuleS.l0] at H
      by_cases c3 : x5 < (x0.length : Int)
      · rw [if_pos c3] at H
        have c3b0 : decide (x5 < (x0.length : Int)) = true := decide_eq_true c3
        by_cases c4 : 0 ≤ x5
        · rw [if_pos c4] at H
          have c4b0 : decide (0 ≤ x5) = true := decide_eq_true c4
          obtain ⟨⟨t1, t2⟩, A10, H⟩ := Option.bind_eq_some_iff.mp H
          have A1 := Aside0.mk A10
          clear A10
          have H' := Aside0.mk H
          clear H
          obtain ⟨g, cap, eu, gb, gl, gc⟩ := Kd.S_form HO.out (by omega)
          subst eu
          have GB := Aside0.mk gb
          clear gb gl gc
          have hPg : P0_ g := (Kd.S_R HO.out).1 g rfl
          have h3 : x5 < ((x0.length : Nat) : Int) := c3
          have hlen : (x0.set x5.toNat ⟨x1, t2, (rd_T61 x0 x5).f2⟩).length = x0.length := List.length_set
          obtain ⟨oki, v, hx0, hx1, hf0, hoki, g1, hg, hH⟩ := rule_open HO.out x5 c4 c3 x1
          have G1 := Aside0.mk g1
          have HH := Aside0.mk hH
          have HB1 := Aside0.mk (below_set (j := x5.toNat * 3) (v := .int .i64 x1) HB.out GB.out)
          have HK1_ := Aside0.mk (Kept.of_grown (S := P0_) hg HK.out (fun k_ e_ => by injection e_ with e_; subst e_; exact .inl hPg))
          have HOKI := Aside0.mk hoki
          have C4 := Aside0.mk c4
          have C3 := Aside0.mk c3
          clear g1 hH hg hoki
          have p5 := eq_true c4
          have q5 := eq_true c3
          clear c3 c4 h3
          obtain ⟨ao, co, eo⟩ := Kd.R_slice G1.out
          subst eo
          go_wp2_with (first | ((with_reducible refine gate_callee (f := 23) rfl ?_); refine goesL_ (some 25) rfl rfl Try.func23 (by kernel_rfl) rfl #[.slice ao (rd_T61 x0 x5).f1.length co, .int .i64 (wrap64 (x1 + 1))] rfl (by (try simp only [List.map_toArray, List.map_cons, List.map_nil]); first | done | rfl | (simp only [List.length_drop, List.length_take]; rfl)) ?_; (with_reducible refine (laws_markIntS.calls k1 (fun k_ => some k_ = (.slice ao (rd_T61 x0 x5).f1.length co : Value).ownBlock) _ _ _ t1 t2 w0 _ HB1.out (Kd.R_tight rfl G1.out) A1.out).mono ?_); rintro e w5 ⟨rfl, hy, hb, hkp⟩; refine ⟨_, rfl, ?_⟩; have n0_ := Aside0.mk (rule_inner HH.out (hkp.mono (fun k_ e_ => G1.out.1 k_ e_.symm)) (Kd.R_mono (Kd.R_tight rfl hy) (fun k_ e_ => G1.out.1 k_ e_.symm))); have n1_ := Aside0.mk (HK1_.out.then_ hkp (fun k_ e_ => .inl (HOKI.out k_ (G1.out.1 k_ e_.symm)).1)); have n2_ := Aside0.mk hb; clear hy hb hkp HB HB1 HK HK1_ HO HH G1; have HO := n0_; have HK := n1_; have HB := n2_; clear n0_ n1_ n2_; have HP2 := Aside0.mk (rule_put2 HO.out x5 C4.out C3.out t1); obtain ⟨oki2, v2, _, _, _, hz2, hfz, _, _⟩ := rule_cells HO.out x5 C4.out C3.out; have hfz2 := hfz 2; clear hfz))
          go_roundg k1
          case measure => have := HK1.out; omega
          case rel => exact ⟨_, (wrap64 (t1 + 1)), (wrap64 (x5 + 1)), rfl, rfl, H', ⟨by have := HK1.out; omega⟩, ⟨by have h_ := HP2.out.1; rw [rd_set_self _ _ _ C4.out C3.out, List.set_set] at h_; exact h_⟩, ⟨Kept.of_grown (S := P0_) HP2.out.2 HK.out (fun k_ e_ => by injection e_ with e_; subst e_; exact .inl hPg)⟩, ⟨below_set HB.out GB.out⟩⟩
        · rw [if_neg c4] at H
          exact absurd H (by simp)
      · rw [if_neg c3] at H
        have c3b0 : decide (x5 < (x0.length : Int)) = false := decide_eq_false c3
        clear c3
        obtain ⟨rfl, rfl⟩ := Prod.mk.inj (Option.some.inj H)
        clear H
        obtain ⟨ao, co, eo⟩ := Kd.S_slice HO.out
        subst eo
        go_wp2
        go_ret
        exact ⟨rfl, HO.out, HB.out, HK.out⟩

end Go.Proofs.Ytncmneliinbjdaa.PRu
