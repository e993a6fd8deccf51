/- Functions of the program, and what a call comes to. No conditions. -/
import Derived.Test.YtncmneliinbjdaaPMkx0
import Derived.Test.YtncmneliinbjdaaPMkx5
namespace Go.Proofs.Ytncmneliinbjdaa.PMk
open Go.RowKit Go.Proofs.YtncmneliinbjdaaW.PrintWords Go.Proofs.YtncmneliinbjdaaW.PrintLast Go.Proofs.YtncmneliinbjdaaW.PrintMore
set_option linter.unusedVariables false
set_option linter.unusedSimpArgs false

/-! ### laws_markLoop: function 16 -/
def laws_markLoop.f (k : Nat) (a0_0 : Int) (a0_1 : Int) (l0_2 : List (List Bool)) (l0_3 : List (List Bool)) (a1 : Int) : Option (Int × List (List Bool) × List (List Bool)) := (laws_markBoolSS.f k l0_2 a1).bind fun t => (laws_markBoolSS.f k l0_3 t.1).bind fun t' => some (t'.1, t.2, t'.2)
theorem laws_markLoop.mono : ∀ a0 a1 a2 a3 a4 k, LeO (laws_markLoop.f k a0 a1 a2 a3 a4) (laws_markLoop.f (k + 1) a0 a1 a2 a3 a4) := by
 intro a0 a1 a2 a3 a4 k
 unfold laws_markLoop.f
 exact LeO.bind (laws_markBoolSS.mono _ _ _) (fun _ => LeO.bind (laws_markBoolSS.mono _ _ _) (fun _ => LeO.refl _))
set_option maxHeartbeats 8000000 in
set_option maxRecDepth 100000 in
theorem laws_markLoop.calls (k : Nat) (P2 P3 : Nat → Prop) (a0_0 : Int) (a0_1 : Int) (v2 v3 : Value) (l2 l3 : List (List Bool)) (a1 : Int) (r1 : Int) (r2 r3 : List (List Bool)) (w0 w : World) (hB : Below w0.heap.size w0 w) (ho2 : Kd.S (Kd.slice 4 Kd.bool) 22 w w0.heap.size P2 v2 l2) (ho3 : Kd.S (Kd.slice 4 Kd.bool) 22 w w0.heap.size P3 v3 l3) (hd : ∀ k_, P3 k_ → ¬ P2 k_) (h : laws_markLoop.f k a0_0 a0_1 l2 l3 a1 = some (r1, r2, r3)) :
  Calls Try.prog 16 #[.agg #[.int .i64 a0_0, .int .i64 a0_1, v2, v3], .int .i64 a1] w fun e w' => e = .returned (.int .i64 r1) ∧ Kd.S (Kd.slice 4 Kd.bool) 22 w' w0.heap.size P2 v2 r2 ∧ Kd.S (Kd.slice 4 Kd.bool) 22 w' w0.heap.size P3 v3 r3 ∧ Below w0.heap.size w0 w' ∧ Kept w w' (fun k_ => P2 k_ ∨ P3 k_) := by
 have hu := Try.underlying25
 obtain ⟨A2, c2, e2⟩ := Kd.S_slice ho2
 subst e2
 obtain ⟨A3, c3, e3⟩ := Kd.S_slice ho3
 subst e3
 have HO2 := asd (Kd.S_mono (ok' := fun k_ => P2 k_ ∧ k_ < w.heap.size) (Kd.S_bound ho2) (fun k_ h_ => ⟨h_.1, h_.2.2.1⟩))
 have HO3 := asd (Kd.S_mono (ok' := fun k_ => P3 k_ ∧ k_ < w.heap.size) (Kd.S_bound ho3) (fun k_ h_ => ⟨h_.1, h_.2.2.1⟩))
 have HK := asd (Kept.refl w (fun k_ => P2 k_ ∨ P3 k_))
 have HB := asd hB
 have HD := asd hd
 clear ho2 ho3 hB hd
 unfold laws_markLoop.f at h
 obtain ⟨⟨t1, t2⟩, A10, h⟩ := Option.bind_eq_some_iff.mp h
 obtain ⟨⟨t3, t4⟩, A20, h⟩ := Option.bind_eq_some_iff.mp h
 obtain ⟨rfl, rfl, rfl⟩ : t3 = r1 ∧ t2 = r2 ∧ t4 = r3 := by simpa using h
 have A1 := asd A10
 have A2_ := asd A20
 clear A10 A20 h
 go_enter Try.func16, Try.ntmps16
 go_wp2_with (first | ((with_reducible refine gate_dst (N := 2) rfl ?_); refine box_event ?hg (N := 2) ?hd (cs := #[.int .i64 a0_0, .int .i64 a0_1, .slice A2 l2.length c2, .slice A3 l3.length c3]) (t := 25) ?hr ?_; (case hd => rfl); (case hg => rfl); (case hr => first | (go_simp; done) | (go_simp; rfl)); intro gb hg w4 hbox hb; have n0_ := asd (Kd.S_below HO2.out hb); have n1_ := asd (Kd.S_below HO3.out hb); have n2_ := asd (below_step HB.out hb); have n3_ := asd (Kept.below HK.out hb); have BK := asd hbox; have GE := asd (Nat.le_of_eq hg.symm); clear HO2 HO3 HB HK hb hbox hg; have HO2 := n0_; have HO3 := n1_; have HB := n2_; have HK := n3_; clear n0_ n1_ n2_ n3_; have hcz4_2 : w4.cell? ⟨gb, 2, none⟩ = some (.slice A2 l2.length c2) := (blk_cell BK.out 2).trans rfl; have hcz4_3 : w4.cell? ⟨gb, 3, none⟩ = some (.slice A3 l3.length c3) := (blk_cell BK.out 3).trans rfl; have hfz4_2 := blk_frozen BK.out 2; have hfz4_3 := blk_frozen BK.out 3) | ((with_reducible refine gate_callee (f := 43) rfl ?_); refine goesL_ (some 8) rfl rfl Try.func43 (by kernel_rfl) rfl #[.slice A2 l2.length c2, .int .i64 a1] rfl (by (try simp only [List.map_toArray, List.map_cons, List.map_nil]); first | done | rfl | (simp only [List.length_drop, List.length_take]; rfl)) ?_; (with_reducible refine (laws_markBoolSS.calls k (fun k_ => P2 k_ ∧ k_ < w.heap.size) _ l2 a1 t1 t2 w0 _ HB.out HO2.out A1.out).mono ?_); rintro e w5 ⟨rfl, hy, hb, hkp⟩; refine ⟨_, rfl, ?_⟩; have n1_ := asd (Kd.S_kept HO3.out hkp (fun k_ h3_ h2_ => HD.out k_ h3_.1 h2_.1)); have n3_ := asd (HK.out.then_ hkp (fun k_ h2_ => .inl (.inl h2_.1))); have n4_ := asd (blk_kept BK.out hkp (fun h2_ => Nat.not_le.2 h2_.2 GE.out)); clear HO2 HO3 HB HK BK; have HO2 := asd hy; have HO3 := n1_; have HB := asd hb; have HK := n3_; have BK := n4_; clear n1_ n3_ n4_ hy hb hkp; have hcz5_3 : w5.cell? ⟨gb, 3, none⟩ = some (.slice A3 l3.length c3) := (blk_cell BK.out 3).trans rfl; have hfz5_3 := blk_frozen BK.out 3) | ((with_reducible refine gate_callee (f := 43) rfl ?_); refine goesL_ (some 12) rfl rfl Try.func43 (by kernel_rfl) rfl #[.slice A3 l3.length c3, .int .i64 t1] rfl (by (try simp only [List.map_toArray, List.map_cons, List.map_nil]); first | done | rfl | (simp only [List.length_drop, List.length_take]; rfl)) ?_; (with_reducible refine (laws_markBoolSS.calls k (fun k_ => P3 k_ ∧ k_ < w.heap.size) _ l3 t1 t3 t4 w0 _ HB.out HO3.out A2_.out).mono ?_); rintro e w6 ⟨rfl, hy, hb, hkp⟩; refine ⟨_, rfl, ?_⟩; have n1_ := asd (Kd.S_kept HO2.out hkp (fun k_ h2_ h3_ => HD.out k_ h3_.1 h2_.1)); have n3_ := asd (HK.out.then_ hkp (fun k_ h3_ => .inl (.inr h3_.1))); clear HO2 HO3 HB HK BK; have HO3 := asd hy; have HO2 := n1_; have HB := asd hb; have HK := n3_; clear n1_ n3_ hy hb hkp))
 go_ret
 exact ⟨rfl, Kd.S_mono HO2.out (fun _ h_ => h_.1), Kd.S_mono HO3.out (fun _ h_ => h_.1), HB.out, HK.out⟩

end Go.Proofs.Ytncmneliinbjdaa.PMk
