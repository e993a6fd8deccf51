/- Rules of regions: both sides make the same. No conditions. -/
import Derived.Test.YtncmneliinbjdaaCk
import Derived.Test.YtncmneliinbjdaaCo
import Derived.Test.YtncmneliinbjdaaRqimplCageRules
set_option linter.unusedVariables false
set_option linter.unusedSimpArgs false
namespace Go.Proofs.Ytncmneliinbjdaa.Rp
open Go Go.RowKit Go.Proofs.Ytncmneliinbjdaa.Ab

def cageStep (g : List Int) (p : Bool) (v c : Int) : Int := if p = true then IntKind.i64.wrap (v * gv g c) else IntKind.i64.wrap (v + gv g c)
def cageVal (g : List Int) (p : Bool) (cells : List Int) : Int := cells.foldl (cageStep g p) (if p = true then 1 else 0)
def cageRule (g : List Int) (p : Bool) (cells : List Int) : Int × List Int × Int := (if p = true then 3 else 2, cells, cageVal g p cells)
def cageFrom (g l : List Int) (p : Bool) : Nat → Nat → Option (List (Int × List Int × Int))
  | _, 0 => some []
  | r, j + 1 => if 4 < (regCells l r).length then none else (cageFrom g l p (r + 1) j).map fun rest => if (regCells l r).length = 0 then rest else cageRule g p (regCells l r) :: rest
def cageV (g : List Int) (n : Int) (l : List Int) (p : Bool) : Option (List (Int × List Int × Int)) := if squareSolved g n = true ∧ regsOk l n = true then cageFrom g l p 0 n.toNat else none

theorem implCage_l5 (rec : Rec) (k : Nat) (L2 : Sl → Int → Sl → Bool → Sl → Int → Int → Hp → An) {H : Hp} {s t out cs : Sl} {g cells : List Int} {n top r kind : Int} {p : Bool} (hs : Reads .i64 H s g) (hc : Reads .i64 H cs cells) (hin : ∀ c ∈ cells, 0 ≤ c ∧ c < (g.length : Int)) (hl : cells.length ≤ 1000) :
    ∀ (j i fuel : Nat) (v : Int), i + j = cells.length → j < fuel →
      impl_CageRules.l5 rec k L2 fuel s n t p out top r cs cells.length i kind cs v H = impl_CageRules.j7 rec k L2 s n t p out top r kind cs ((cells.drop i).foldl (cageStep g p) v) H := by
  intro j
  induction j with
  | zero =>
    intro i fuel v hi hf
    obtain ⟨fuel, rfl⟩ : ∃ q, fuel = q + 1 := ⟨fuel - 1, by omega⟩
    rw [List.drop_eq_nil_of_le (by omega)]
    simp [impl_CageRules.l5, show ¬ i < cells.length by omega]
  | succ j ih =>
    intro i fuel v hi hf
    obtain ⟨fuel, rfl⟩ : ∃ q, fuel = q + 1 := ⟨fuel - 1, by omega⟩
    have h1 := hc.len
    have h2 : i < cells.length := by omega
    have h3 := reads_at hc i h2
    have h4 := wrs (i := i) (by omega)
    obtain ⟨c0, c1⟩ := hin _ (List.getElem_mem h2)
    have h5 := gv_at hs c0 c1
    have q0 : (0 : Int) ≤ (i : Int) := by omega
    have q1 : (i : Int) < (cells.length : Int) := by omega
    have c1' : cells[i] < (s.len : Int) := by rw [hs.len]; exact c1
    rw [List.drop_eq_getElem_cons h2, List.foldl_cons]
    cases p with
    | true =>
      have b := ih (i + 1) fuel (IntKind.i64.wrap (v * gv g cells[i])) (by omega) (by omega)
      push_cast at b
      simp only [impl_CageRules.l5, impl_CageRules.j6, h1, q0, q1, c0, c1', decide_true, Bool.and_self, cond_true, Int.toNat_natCast, Nat.mul_one, h3, h5, Option.bind_some, h4, b]
      rfl
    | false =>
      have b := ih (i + 1) fuel (IntKind.i64.wrap (v + gv g cells[i])) (by omega) (by omega)
      push_cast at b
      simp only [impl_CageRules.l5, impl_CageRules.j6, h1, q0, q1, c0, c1', decide_true, Bool.and_self, cond_true, cond_false, Int.toNat_natCast, Nat.mul_one, h3, h5, Option.bind_some, h4, b]
      rfl

theorem implCage_l2 {k : Nat} (hk : 2000001 ≤ k) {H0 : Hp} {s t : Sl} {g l : List Int} {n : Int} {p : Bool} (hs : Reads .i64 H0 s g) (ht : Reads .i64 H0 t l) (hg : gridOk g n = true) (hv : regsOk l n = true) :
    ∀ (j r fuel : Nat) (H : Hp) (out : Sl) (rs : List R), (r : Int) + j = n → j < fuel → H0 <+: H → WO H0 H out rs → rs.length ≤ r →
      ∃ t' rs' H', impl_CageRules.l2 (callF PP orc k) k fuel s n t p out n r H = some (.tup [.sl 3 t', .bool (cageFrom g l p r j).isSome], H') ∧ H0 <+: H' ∧ OwnR H0 H' t' rs' ∧ rs'.map R.val = (((cageFrom g l p r j).map (rs.map R.val ++ ·)).getD []) := by
  obtain ⟨⟨n1, n2⟩, n3, n4⟩ := (gridOk_iff g n).1 hg
  obtain ⟨_, m3, m4⟩ := (regsOk_iff l n).1 hv
  have hlg : (l.length : Int) = g.length := by omega
  have hl16 : l.length ≤ 16 := by have := gridOk_len hg; omega
  have nil : ∀ H1, OwnR H0 H1 Sl.none [] := fun H1 => ⟨rfl, fun h => absurd rfl h, fun i hi => absurd hi (Nat.not_lt_zero _), fun i hi => absurd hi (Nat.not_lt_zero _), fun i j hi => absurd hi (Nat.not_lt_zero _)⟩
  intro j
  induction j with
  | zero =>
    intro r fuel H out rs hr hf hp ho hrl
    obtain ⟨fuel, rfl⟩ : ∃ q, fuel = q + 1 := ⟨fuel - 1, by omega⟩
    have : ¬ ((r : Int) < n) := by omega
    refine ⟨out, rs, H, ?_, hp, ho.ownR, by simp [cageFrom]⟩
    simp only [impl_CageRules.l2, impl_CageRules.j4, this, decide_false, cond_false, cageFrom, Option.isSome_some]
  | succ j ih =>
    intro r fuel H out rs hr hf hp ho hrl
    obtain ⟨fuel, rfl⟩ : ∃ q, fuel = q + 1 := ⟨fuel - 1, by omega⟩
    have hr1 : (r : Int) < n := by omega
    obtain ⟨cs, H1, a1, a2, a3⟩ := implRegionCells_ok hk (r := (r : Int)) (pf_reads hp ht) hv ⟨by omega, hr1⟩
    have hcs := own_reads a3
    have hcl := hcs.len
    have hcin : ∀ c ∈ regCells l r, 0 ≤ c ∧ c < (g.length : Int) := fun c hc => by have := idx_mem _ _ _ c hc; omega
    have hcl2 : (regCells l r).length ≤ 16 := by have := idx_len (r : Int) l 0; unfold regCells; omega
    have kd : ∀ (kind v0 : Int), kind = (if p = true then 3 else 2) → v0 = (if p = true then 1 else 0) →
        ∃ t' rs' H', impl_CageRules.j3 (callF PP orc k) k (impl_CageRules.l2 (callF PP orc k) k fuel) s n t p out n r kind cs v0 H1 = some (.tup [.sl 3 t', .bool (cageFrom g l p r (j + 1)).isSome], H') ∧ H0 <+: H' ∧ OwnR H0 H' t' rs' ∧ rs'.map R.val = (((cageFrom g l p r (j + 1)).map (rs.map R.val ++ ·)).getD []) := by
      intro kind v0 hkind hv0
      by_cases c4 : 4 < (regCells l r).length
      · have c4' : (cs.len : Int) > 4 := by omega
        refine ⟨Sl.none, [], H1, ?_, hp.trans a2, nil _, by rw [cageFrom, if_pos c4]; rfl⟩
        rw [cageFrom, if_pos c4]
        simp only [impl_CageRules.j3, c4', decide_true, cond_true, Option.isSome_none]
      · have c4' : ¬ (cs.len : Int) > 4 := by omega
        have h5 := implCage_l5 (callF PP orc k) k (impl_CageRules.l2 (callF PP orc k) k fuel) (t := t) (out := out) (n := n) (top := n) (r := (r : Int)) (kind := kind) (p := p) (pf_reads (hp.trans a2) hs) hcs hcin (by omega) (regCells l r).length 0 k v0 (by omega) (by omega)
        simp only [List.drop_zero, Int.natCast_zero] at h5
        have hval : (regCells l r).foldl (cageStep g p) v0 = cageVal g p (regCells l r) := by unfold cageVal; rw [hv0]
        have hj : impl_CageRules.j3 (callF PP orc k) k (impl_CageRules.l2 (callF PP orc k) k fuel) s n t p out n r kind cs v0 H1 = impl_CageRules.j7 (callF PP orc k) k (impl_CageRules.l2 (callF PP orc k) k fuel) s n t p out n r kind cs (cageVal g p (regCells l r)) H1 := by
          rw [← hval, ← h5]
          have c4'' : ¬ (((regCells l r).length : Int) > 4) := by omega
          simp only [impl_CageRules.j3, hcl, c4'', decide_false, cond_false]
        have h4 := wrs (i := r) (by omega)
        by_cases c0 : (regCells l r).length = 0
        · have c0' : ¬ (cs.len : Int) > 0 := by omega
          obtain ⟨t', rs', H', d1, d2, d3, d4⟩ := ih (r + 1) fuel H1 out rs (by omega) (by omega) (hp.trans a2) (ho.pf a2) (by omega)
          push_cast at d1
          refine ⟨t', rs', H', ?_, d2, d3, ?_⟩
          · rw [hj]
            simp only [impl_CageRules.j7, impl_CageRules.j8, c0', decide_false, cond_false, h4, d1]
            rw [cageFrom, if_neg c4]
            simp
          · rw [d4, cageFrom, if_neg c4]
            cases cageFrom g l p (r + 1) j <;> simp [c0]
        · have c0' : (cs.len : Int) > 0 := by omega
          have hout := own_lt ho.own
          obtain ⟨out1, H9, e1, e2, e3, e4, e5, e6⟩ := wo_app (ho.pf a2) (hp.trans a2) (by omega) { kind := kind, sl := cs, cells := regCells l r, value := cageVal g p (regCells l r) } (own_base a3 hp) (by have := a3.blk; simp only; omega) (fun i hi => by have := own_lt (ho.oc i hi); have := a3.blk; simp only; omega)
          obtain ⟨t', rs', H', d1, d2, d3, d4⟩ := ih (r + 1) fuel H9 out1 _ (by omega) (by omega) e2 e3 (by simp; omega)
          push_cast at d1
          refine ⟨t', rs', H', ?_, d2, d3, ?_⟩
          · rw [hj]
            simp only [R.av] at e1
            simp only [impl_CageRules.j7, impl_CageRules.j8, c0', decide_true, cond_true, e1, Option.bind_some, h4, d1]
            rw [cageFrom, if_neg c4]
            simp
          · rw [d4, cageFrom, if_neg c4]
            cases cageFrom g l p (r + 1) j <;> simp [c0, R.val, cageRule, hkind]
    cases p with
    | true =>
      obtain ⟨t', rs', H', d1, d2, d3, d4⟩ := kd 3 1 rfl rfl
      refine ⟨t', rs', H', ?_, d2, d3, d4⟩
      simp only [impl_CageRules.l2, hr1, decide_true, cond_true, a1, Option.bind_some, AV.toS, if_true, d1]
    | false =>
      obtain ⟨t', rs', H', d1, d2, d3, d4⟩ := kd 2 0 rfl rfl
      refine ⟨t', rs', H', ?_, d2, d3, d4⟩
      simp only [impl_CageRules.l2, hr1, decide_true, cond_true, cond_false, a1, Option.bind_some, AV.toS, if_true, d1]

theorem implCage_ok {k : Nat} (hk : 2000004 ≤ k) {H : Hp} {s t : Sl} {g l : List Int} (n : Int) (p : Bool) (hs : Reads .i64 H s g) (hl : g.length ≤ 1048576) (ht : Reads .i64 H t l) (hl2 : l.length ≤ 1048576) :
    ∃ t' rs H', callF PP orc k impl_CageRules.id [.sl 1 s, .int .i64 n, .sl 1 t, .bool p] H = some (.tup [.sl 3 t', .bool (cageV g n l p).isSome], H') ∧ H <+: H' ∧ OwnR H H' t' rs ∧ rs.map R.val = (cageV g n l p).getD [] := by
  obtain ⟨k, rfl⟩ : ∃ m, k = m + 1 := ⟨k - 1, by omega⟩
  rw [impl_CageRules.call]
  obtain ⟨H1, a1, a2⟩ := implSquareSolved_ok (show 2000003 ≤ k by omega) n hs hl
  have nil : ∀ H1, OwnR H H1 Sl.none [] := fun H1 => ⟨rfl, fun h => absurd rfl h, fun i hi => absurd hi (Nat.not_lt_zero _), fun i hi => absurd hi (Nat.not_lt_zero _), fun i j hi => absurd hi (Nat.not_lt_zero _)⟩
  cases hsq : squareSolved g n with
  | false =>
    have e : cageV g n l p = none := by unfold cageV; rw [if_neg (by simp [hsq])]
    refine ⟨Sl.none, [], H1, ?_, a2, nil _, by rw [e]; rfl⟩
    rw [e]
    simp only [impl_CageRules.f, impl_CageRules.j0, a1, Option.bind_some, AV.toB, hsq, Bool.not_false, cond_true, Option.isSome_none]
  | true =>
    have hrv := implRegionsValid_ok (show 2000000 ≤ k by omega) (pf_reads a2 ht) hl2 n
    cases hv : regsOk l n with
    | false =>
      have e : cageV g n l p = none := by unfold cageV; rw [if_neg (by simp [hv])]
      refine ⟨Sl.none, [], H1, ?_, a2, nil _, by rw [e]; rfl⟩
      rw [e]
      simp only [impl_CageRules.f, impl_CageRules.j0, a1, Option.bind_some, AV.toB, hsq, Bool.not_true, cond_false, hrv, hv, Bool.not_false, cond_true, Option.isSome_none]
    | true =>
      have hg := solved_ok hsq
      obtain ⟨⟨n1, n2⟩, n3, n4⟩ := (gridOk_iff g n).1 hg
      have e : cageV g n l p = cageFrom g l p 0 n.toNat := by unfold cageV; rw [if_pos ⟨hsq, hv⟩]
      obtain ⟨t', rs', H', d1, d2, d3, d4⟩ := implCage_l2 (show 2000001 ≤ k by omega) (p := p) (pf_reads a2 hs) (pf_reads a2 ht) hg hv n.toNat 0 k (H1 ++ [some (Blk.mk false [])]) (Sl.mk false H1.length 0 0) [] (by omega) (by omega) (List.prefix_append _ _)
        ⟨own_new 3 H1 [] 0 rfl, fun i hi => absurd hi (Nat.not_lt_zero _), fun i hi => absurd hi (Nat.not_lt_zero _), fun i j hi => absurd hi (Nat.not_lt_zero _)⟩ (by simp)
      refine ⟨t', rs', H', ?_, a2.trans d2, d3.base a2, by rw [d4, e]; cases cageFrom g l p 0 n.toNat <;> simp⟩
      rw [e]
      simp only [impl_CageRules.f, impl_CageRules.j0, impl_CageRules.j1, a1, Option.bind_some, AV.toB, hsq, Bool.not_true, cond_false, hrv, hv]
      exact d1

theorem specCage_l3 (rec : Rec) (k : Nat) (L2 : Sl → Int → Sl → Bool → Sl → Int → Hp → An) {H : Hp} {s t out cs : Sl} {g cells : List Int} {n r : Int} {p : Bool} (hs : Reads .i64 H s g) (hc : Reads .i64 H cs cells) (hin : ∀ c ∈ cells, 0 ≤ c ∧ c < (g.length : Int)) (hl : cells.length ≤ 1000) :
    ∀ (j i fuel : Nat) (v w : Int), i + j = cells.length → j < fuel →
      spec_CageRules.l3 rec k L2 fuel s n t p out r cs v w i H = spec_CageRules.j5 rec k L2 s n t p out r cs ((cells.drop i).foldl (cageStep g false) v) ((cells.drop i).foldl (cageStep g true) w) H := by
  intro j
  induction j with
  | zero =>
    intro i fuel v w hi hf
    obtain ⟨fuel, rfl⟩ : ∃ q, fuel = q + 1 := ⟨fuel - 1, by omega⟩
    rw [List.drop_eq_nil_of_le (by omega)]
    simp [spec_CageRules.l3, hc.len, show ¬ i < cells.length by omega]
  | succ j ih =>
    intro i fuel v w hi hf
    obtain ⟨fuel, rfl⟩ : ∃ q, fuel = q + 1 := ⟨fuel - 1, by omega⟩
    have h1 := hc.len
    have h2 : i < cells.length := by omega
    have h3 := reads_at hc i h2
    have h4 := wrs (i := i) (by omega)
    obtain ⟨c0, c1⟩ := hin _ (List.getElem_mem h2)
    have h5 := gv_at hs c0 c1
    have q0 : (0 : Int) ≤ (i : Int) := by omega
    have q1 : (i : Int) < (cells.length : Int) := by omega
    have c1' : cells[i] < (s.len : Int) := by rw [hs.len]; exact c1
    rw [List.drop_eq_getElem_cons h2, List.foldl_cons, List.foldl_cons]
    have b := ih (i + 1) fuel (IntKind.i64.wrap (v + gv g cells[i])) (IntKind.i64.wrap (w * gv g cells[i])) (by omega) (by omega)
    push_cast at b
    simp only [spec_CageRules.l3, h1, q0, q1, c0, c1', decide_true, Bool.and_self, cond_true, Int.toNat_natCast, Nat.mul_one, h3, h5, Option.bind_some, h4, b]
    rfl

theorem specCage_l2 {k : Nat} (hk : 2000001 ≤ k) {H0 : Hp} {s t : Sl} {g l : List Int} {n : Int} {p : Bool} (hs : Reads .i64 H0 s g) (ht : Reads .i64 H0 t l) (hg : gridOk g n = true) (hv : regsOk l n = true) :
    ∀ (j r fuel : Nat) (H : Hp) (out : Sl) (rs : List R), (r : Int) + j = n → j < fuel → H0 <+: H → WO H0 H out rs → rs.length ≤ r →
      ∃ t' rs' H', spec_CageRules.l2 (callF PP orc k) k fuel s n t p out r H = some (.tup [.sl 3 t', .bool (cageFrom g l p r j).isSome], H') ∧ H0 <+: H' ∧ OwnR H0 H' t' rs' ∧ rs'.map R.val = (((cageFrom g l p r j).map (rs.map R.val ++ ·)).getD []) := by
  obtain ⟨⟨n1, n2⟩, n3, n4⟩ := (gridOk_iff g n).1 hg
  obtain ⟨_, m3, m4⟩ := (regsOk_iff l n).1 hv
  have hlg : (l.length : Int) = g.length := by omega
  have hl16 : l.length ≤ 16 := by have := gridOk_len hg; omega
  intro j
  induction j with
  | zero =>
    intro r fuel H out rs hr hf hp ho hrl
    obtain ⟨fuel, rfl⟩ : ∃ q, fuel = q + 1 := ⟨fuel - 1, by omega⟩
    have : ¬ ((r : Int) < n) := by omega
    refine ⟨out, rs, H, ?_, hp, ho.ownR, by simp [cageFrom]⟩
    simp only [spec_CageRules.l2, spec_CageRules.j4, this, decide_false, cond_false, cageFrom, Option.isSome_some]
  | succ j ih =>
    intro r fuel H out rs hr hf hp ho hrl
    obtain ⟨fuel, rfl⟩ : ∃ q, fuel = q + 1 := ⟨fuel - 1, by omega⟩
    have hr1 : (r : Int) < n := by omega
    obtain ⟨cs, H1, a1, a2, a3⟩ := specRegionCells_ok hk (r := (r : Int)) (pf_reads hp ht) hv
    have hcs := own_reads a3
    have hcl := hcs.len
    have hcin : ∀ c ∈ regCells l r, 0 ≤ c ∧ c < (g.length : Int) := fun c hc => by have := idx_mem _ _ _ c hc; omega
    have hcl2 : (regCells l r).length ≤ 16 := by have := idx_len (r : Int) l 0; unfold regCells; omega
    have h4 := wrs (i := r) (by omega)
    by_cases c4 : 4 < (regCells l r).length
    · have c4' : (cs.len : Int) > 4 := by omega
      refine ⟨Sl.mk false H1.length 0 0, [], H1 ++ [some (Blk.mk false [])], ?_, (hp.trans a2).trans (List.prefix_append _ _), ⟨rfl, fun h => absurd rfl h, fun i hi => absurd hi (Nat.not_lt_zero _), fun i hi => absurd hi (Nat.not_lt_zero _), fun i j hi => absurd hi (Nat.not_lt_zero _)⟩, by rw [cageFrom, if_pos c4]; rfl⟩
      rw [cageFrom, if_pos c4]
      simp only [spec_CageRules.l2, hr1, decide_true, cond_true, a1, Option.bind_some, AV.toS, if_true, c4', Option.isSome_none]
    · have c4' : ¬ (cs.len : Int) > 4 := by omega
      have h5 := specCage_l3 (callF PP orc k) k (spec_CageRules.l2 (callF PP orc k) k fuel) (t := t) (out := out) (n := n) (r := (r : Int)) (p := p) (pf_reads (hp.trans a2) hs) hcs hcin (by omega) (regCells l r).length 0 k 0 1 (by omega) (by omega)
      simp only [List.drop_zero, Int.natCast_zero] at h5
      have hj : spec_CageRules.l2 (callF PP orc k) k (fuel + 1) s n t p out r H = spec_CageRules.j5 (callF PP orc k) k (spec_CageRules.l2 (callF PP orc k) k fuel) s n t p out r cs (cageVal g false (regCells l r)) (cageVal g true (regCells l r)) H1 := by
        refine Eq.trans ?_ h5
        simp only [spec_CageRules.l2, hr1, decide_true, cond_true, a1, Option.bind_some, AV.toS, if_true, c4', decide_false, cond_false]
      by_cases c0 : (regCells l r).length = 0
      · have c0' : ((cs.len : Int) == 0) = true := by simp; omega
        obtain ⟨t', rs', H', d1, d2, d3, d4⟩ := ih (r + 1) fuel H1 out rs (by omega) (by omega) (hp.trans a2) (ho.pf a2) (by omega)
        push_cast at d1
        refine ⟨t', rs', H', ?_, d2, d3, ?_⟩
        · rw [hj]
          simp only [spec_CageRules.j5, spec_CageRules.j6, c0', cond_true, h4, d1]
          rw [cageFrom, if_neg c4]
          simp
        · rw [d4, cageFrom, if_neg c4]
          cases cageFrom g l p (r + 1) j <;> simp [c0]
      · have c0' : ((cs.len : Int) == 0) = false := by simp; omega
        have hout := own_lt ho.own
        have kd : ∀ (kind v : Int), kind = (if p = true then 3 else 2) → v = cageVal g p (regCells l r) → (∀ a H9, H1.app 3 out 1 [.int .i64 kind, .sl 1 cs, .int .i64 v] = some (a, H9) → spec_CageRules.j5 (callF PP orc k) k (spec_CageRules.l2 (callF PP orc k) k fuel) s n t p out r cs (cageVal g false (regCells l r)) (cageVal g true (regCells l r)) H1 = spec_CageRules.l2 (callF PP orc k) k fuel s n t p a ((r : Int) + 1) H9) →
            ∃ t' rs' H', spec_CageRules.l2 (callF PP orc k) k (fuel + 1) s n t p out r H = some (.tup [.sl 3 t', .bool (cageFrom g l p r (j + 1)).isSome], H') ∧ H0 <+: H' ∧ OwnR H0 H' t' rs' ∧ rs'.map R.val = (((cageFrom g l p r (j + 1)).map (rs.map R.val ++ ·)).getD []) := by
          intro kind v hkind hvv hstep
          obtain ⟨out1, H9, e1, e2, e3, e4, e5, e6⟩ := wo_app (ho.pf a2) (hp.trans a2) (by omega) { kind := kind, sl := cs, cells := regCells l r, value := v } (own_base a3 hp) (by have := a3.blk; simp only; omega) (fun i hi => by have := own_lt (ho.oc i hi); have := a3.blk; simp only; omega)
          obtain ⟨t', rs', H', d1, d2, d3, d4⟩ := ih (r + 1) fuel H9 out1 _ (by omega) (by omega) e2 e3 (by simp; omega)
          push_cast at d1
          refine ⟨t', rs', H', ?_, d2, d3, ?_⟩
          · rw [hj, hstep _ _ e1, d1]
            rw [cageFrom, if_neg c4]
            simp
          · rw [d4, cageFrom, if_neg c4]
            cases cageFrom g l p (r + 1) j <;> simp [c0, R.val, cageRule, hkind, hvv]
        cases p with
        | true => exact kd 3 _ rfl rfl (fun a H9 e1 => by simp only [spec_CageRules.j5, spec_CageRules.j6, c0', cond_true, cond_false, e1, Option.bind_some, h4])
        | false => exact kd 2 _ rfl rfl (fun a H9 e1 => by simp only [spec_CageRules.j5, spec_CageRules.j6, c0', cond_true, cond_false, e1, Option.bind_some, h4])

theorem specCage_ok {k : Nat} (hk : 2000004 ≤ k) {H : Hp} {s t : Sl} {g l : List Int} (n : Int) (p : Bool) (hs : Reads .i64 H s g) (hl : g.length ≤ 1048576) (ht : Reads .i64 H t l) (hl2 : l.length ≤ 1048576) :
    ∃ t' rs H', callF PP orc k spec_CageRules.id [.sl 1 s, .int .i64 n, .sl 1 t, .bool p] H = some (.tup [.sl 3 t', .bool (cageV g n l p).isSome], H') ∧ H <+: H' ∧ ReadsR H' t' rs ∧ rs.map R.val = (cageV g n l p).getD [] := by
  obtain ⟨k, rfl⟩ : ∃ m, k = m + 1 := ⟨k - 1, by omega⟩
  rw [spec_CageRules.call]
  have p0 : H <+: H ++ [some (Blk.mk false [])] := List.prefix_append _ _
  obtain ⟨H1, a1, a2⟩ := specSquareSolved_ok (show 2000003 ≤ k by omega) n (pf_reads p0 hs) hl
  have nil : ∀ H1, ReadsR H1 (Sl.mk false H.length 0 0) [] := fun H1 => ⟨rfl, fun i hi => absurd hi (Nat.not_lt_zero _), fun i hi => absurd hi (Nat.not_lt_zero _), fun i hi => absurd hi (Nat.not_lt_zero _), fun i hi => absurd hi (Nat.not_lt_zero _)⟩
  cases hsq : squareSolved g n with
  | false =>
    have e : cageV g n l p = none := by unfold cageV; rw [if_neg (by simp [hsq])]
    refine ⟨_, [], H1, ?_, p0.trans a2, nil _, by rw [e]; rfl⟩
    rw [e]
    simp only [spec_CageRules.f, spec_CageRules.j0, a1, Option.bind_some, AV.toB, hsq, Bool.not_false, cond_true, Option.isSome_none]
  | true =>
    have hrv := specRegionsValid_ok (show 2000000 ≤ k by omega) (pf_reads (p0.trans a2) ht) hl2 n
    cases hv : regsOk l n with
    | false =>
      have e : cageV g n l p = none := by unfold cageV; rw [if_neg (by simp [hv])]
      refine ⟨_, [], H1, ?_, p0.trans a2, nil _, by rw [e]; rfl⟩
      rw [e]
      simp only [spec_CageRules.f, spec_CageRules.j0, a1, Option.bind_some, AV.toB, hsq, Bool.not_true, cond_false, hrv, hv, Bool.not_false, cond_true, Option.isSome_none]
    | true =>
      have hg := solved_ok hsq
      obtain ⟨⟨n1, n2⟩, n3, n4⟩ := (gridOk_iff g n).1 hg
      have e : cageV g n l p = cageFrom g l p 0 n.toNat := by unfold cageV; rw [if_pos ⟨hsq, hv⟩]
      obtain ⟨t', rs', H', d1, d2, d3, d4⟩ := specCage_l2 (show 2000001 ≤ k by omega) (p := p) hs ht hg hv n.toNat 0 k H1 (Sl.mk false H.length 0 0) [] (by omega) (by omega) (p0.trans a2)
        ⟨own_pf (own_new 3 H [] 0 rfl) a2, fun i hi => absurd hi (Nat.not_lt_zero _), fun i hi => absurd hi (Nat.not_lt_zero _), fun i j hi => absurd hi (Nat.not_lt_zero _)⟩ (by simp)
      refine ⟨t', rs', H', ?_, d2, d3.reads, by rw [d4, e]; cases cageFrom g l p 0 n.toNat <;> simp⟩
      rw [e]
      simp only [spec_CageRules.f, spec_CageRules.j0, spec_CageRules.j1, a1, Option.bind_some, AV.toB, hsq, Bool.not_true, cond_false, hrv, hv]
      exact d1
end Go.Proofs.Ytncmneliinbjdaa.Rp
