/- Texts for the row of the law FnSolveSteps, part 5: the plain machine, the program's functions on it, what they come to. No conditions. -/
import Derived.Test.YtchliocobgkmbaaAb
import Derived.Test.YtchliocobgkmbaaOr
set_option linter.unusedVariables false
set_option linter.unusedSimpArgs false
set_option maxRecDepth 100000
namespace Go.Proofs.Ytchliocobgkmbaa.Rp
open Go Go.Proofs.Ytchliocobgkmbaa.Ab
namespace spec_l20Puzzle
noncomputable def body:Code:=(Go.Proofs.Try.f50).body.getD .skip
abbrev o:=orc spec_l20Puzzle.id
noncomputable def j7 (rec:Rec) (k:Nat) (L5:Nat→Nat→Int→Int→Sl→Int→Int→Int→Sl→Sl→Int→Sl→Sl→Hp→An) (x0b:Nat) (x0o:Nat) (x1:Int) (x5:Int) (x6:Sl) (x13:Int) (x14:Int) (y4_0:Int) (y4_1:Sl) (y4_2:Sl) (y7_0:Int) (y7_1:Sl) (y7_2:Sl) (H:Hp):An:=L5 x0b x0o x1 x5 x6 x13 (IntKind.i64.wrap (x14 + 1)) y4_0 y4_1 y4_2 y7_0 y7_1 y7_2 H
noncomputable def j8 (rec:Rec) (k:Nat) (y4_0:Int) (y4_1:Sl) (y4_2:Sl) (y7_0:Int) (y7_1:Sl) (y7_2:Sl) (H:Hp):An:=some (.agg [.int .i64 y7_0,.sl 1 y7_1,.sl 3 y7_2],H)
noncomputable def j6 (rec:Rec) (k:Nat) (x0b:Nat) (x0o:Nat) (x1:Int) (x5:Int) (x6:Sl) (y4_0:Int) (y4_1:Sl) (y4_2:Sl) (y7_0:Int) (y7_1:Sl) (y7_2:Sl) (H:Hp):An:=(rec spec_l20Rd_odd.id [.ptr x0b x0o,.int .i64 x1] H).bind fun r44=>r44.1.toB.bind fun b45=>bif b45 then (rec spec_l20Rd_pick.id [.ptr x0b x0o,.int .i64 3] r44.2).bind fun r46=>(r46.1.toI .i64).bind fun n47=>bif n47 == 0 then (rec spec_l20Rule.id [.ptr x0b x0o,.sl 1 x6,.int .i64 x5,.int .i64 1] r46.2).bind fun r48=>bif r48.1.isAgg 3 then ((r48.1.cel 0).toI .i64).bind fun n49=>((r48.1.cel 1).toS 1).bind fun s50=>((r48.1.cel 2).toI .i64).bind fun n51=>(r48.2.app 3 y7_2 1 [.int .i64 n49,.sl 1 s50,.int .i64 n51]).bind fun w52=>j8 rec k y4_0 y4_1 y4_2 y7_0 y7_1 w52.1 w52.2 else none else bif n47 == 1 then if (0 ≤ (1:Int)∧(1:Int) ≤ (y7_1.len:Int)∧((y7_1.len:Int):Int) ≤ y7_1.len∧((y7_1.len:Int):Int)=(y7_1.len:Int))∧0 < 1∧true=true then j8 rec k y4_0 y4_1 y4_2 y7_0 (Sl.mk y7_1.nil y7_1.blk (y7_1.off + (1:Int).toNat * 1) (((y7_1.len:Int):Int) - 1).toNat) y7_2 r46.2 else none else if 0 ≤ (21:Int)∧(21:Int) ≤ 21∧(21:Int) ≤ 1073741824∧40 ≤ 8192∧0 < 3 then j8 rec k y4_0 y4_1 y4_2 y7_0 y7_1 (Sl.mk false r46.2.length 0 (21:Int).toNat) (r46.2 ++ [some (Blk.mk false (List.replicate (21:Int).toNat [.int .i64 0,.sl 1 Sl.none,.int .i64 0]).flatten)]) else none else j8 rec k y4_0 y4_1 y4_2 y7_0 y7_1 y7_2 r44.2
noncomputable def j4 (rec:Rec) (k:Nat) (x0b:Nat) (x0o:Nat) (x1:Int) (x5:Int) (x6:Sl) (y4_0:Int) (y4_1:Sl) (y4_2:Sl) (y7_0:Int) (y7_1:Sl) (y7_2:Sl) (H:Hp):An:=(rec spec_l20Rd_pick.id [.ptr x0b x0o,.int .i64 8] H).bind fun r34=>(r34.1.toI .i64).bind fun n35=>bif n35 == 0 then (rec spec_l20Rd_pick.id [.ptr x0b x0o,.int .i64 (y7_1.len:Int)] r34.2).bind fun r36=>(r36.1.toI .i64).bind fun n37=>(rec spec_l20Rd_pick.id [.ptr x0b x0o,.int .i64 x5] r36.2).bind fun r38=>(r38.1.toI .i64).bind fun n39=>bif decide (0 ≤ (n37:Int)) && decide ((n37:Int) < y7_1.len) then (r38.2.sto y7_1.blk (y7_1.off + (n37:Int).toNat * 1) [.int .i64 (IntKind.i64.wrap (1 + n39))]).bind fun H40=>j6 rec k x0b x0o x1 x5 x6 y4_0 y4_1 y4_2 y7_0 y7_1 y7_2 H40 else none else j6 rec k x0b x0o x1 x5 x6 y4_0 y4_1 y4_2 y7_0 y7_1 y7_2 r34.2
noncomputable def l5 (rec:Rec) (k:Nat):Nat→Nat→Nat→Int→Int→Sl→Int→Int→Int→Sl→Sl→Int→Sl→Sl→Hp→An
 | 0,_,_,_,_,_,_,_,_,_,_,_,_,_,_=>none
 | n + 1,x0b,x0o,x1,x5,x6,x13,x14,y4_0,y4_1,y4_2,y7_0,y7_1,y7_2,H=>bif decide (x14 < (y7_1.len:Int)) then (rec spec_l20Rd_pick.id [.ptr x0b x0o,.int .i64 4] H).bind fun r41=>(r41.1.toI .i64).bind fun n42=>bif decide (n42 < x13) then bif decide (0 ≤ (x14:Int)) && decide ((x14:Int) < y7_1.len) then (r41.2.sto y7_1.blk (y7_1.off + (x14:Int).toNat * 1) [.int .i64 0]).bind fun H43=>j7 rec k (l5 rec k n) x0b x0o x1 x5 x6 x13 x14 y4_0 y4_1 y4_2 y7_0 y7_1 y7_2 H43 else none else j7 rec k (l5 rec k n) x0b x0o x1 x5 x6 x13 x14 y4_0 y4_1 y4_2 y7_0 y7_1 y7_2 r41.2 else j4 rec k x0b x0o x1 x5 x6 y4_0 y4_1 y4_2 y7_0 y7_1 y7_2 H
noncomputable def j3 (rec:Rec) (k:Nat) (x0b:Nat) (x0o:Nat) (x1:Int) (x5:Int) (x6:Sl) (y4_0:Int) (y4_1:Sl) (y4_2:Sl) (y7_0:Int) (y7_1:Sl) (y7_2:Sl) (H:Hp):An:=(rec spec_l20Rd_pick.id [.ptr x0b x0o,.int .i64 3] H).bind fun r25=>(r25.1.toI .i64).bind fun n26=>bif n26 == 0 then (rec spec_MakeMinimal.id [.agg [.int .i64 y7_0,.sl 1 y7_1,.sl 3 y7_2]] r25.2).bind fun r27=>bif r27.1.isTup 2 then bif (r27.1.nth 0).isAgg 3 then (((r27.1.nth 0).cel 0).toI .i64).bind fun n28=>(((r27.1.nth 0).cel 1).toS 1).bind fun s29=>(((r27.1.nth 0).cel 2).toS 3).bind fun s30=>(r27.1.nth 1).toB.bind fun b31=>bif b31 then j4 rec k x0b x0o x1 x5 x6 y4_0 y4_1 y4_2 n28 s29 s30 r27.2 else j4 rec k x0b x0o x1 x5 x6 y4_0 y4_1 y4_2 y7_0 y7_1 y7_2 r27.2 else none else none else (rec spec_l20Rd_pick.id [.ptr x0b x0o,.int .i64 3] r25.2).bind fun r32=>(r32.1.toI .i64).bind fun n33=>l5 rec k k x0b x0o x1 x5 x6 (IntKind.i64.wrap (1 + n33)) 0 y4_0 y4_1 y4_2 y7_0 y7_1 y7_2 r32.2
noncomputable def j2 (rec:Rec) (k:Nat) (x0b:Nat) (x0o:Nat) (x1:Int) (x5:Int) (x6:Sl) (x46:Bool) (y4_0:Int) (y4_1:Sl) (y4_2:Sl) (y7_0:Int) (y7_1:Sl) (y7_2:Sl) (H:Hp):An:=bif x46 then (rec spec_BoxRegions.id [] H).bind fun r16=>(r16.1.toS 1).bind fun s17=>(rec spec_RegionRules.id [.sl 1 s17,.int .i64 4] r16.2).bind fun r18=>bif r18.1.isTup 2 then ((r18.1.nth 0).toS 3).bind fun s19=>(r18.1.nth 1).toB.bind fun b20=>(rec spec_PuzzleSolved.id [.agg [.int .i64 4,.sl 1 x6,.sl 3 s19],.sl 1 x6] r18.2).bind fun r21=>r21.1.toB.bind fun b22=>bif b22 then (r21.2.read 3 s19).bind fun c24=>(r21.2.app 3 y7_2 s19.len c24).bind fun w23=>bif c24.all AV.cell then j3 rec k x0b x0o x1 x5 x6 y4_0 y4_1 y4_2 y7_0 y7_1 w23.1 w23.2 else none else j3 rec k x0b x0o x1 x5 x6 y4_0 y4_1 y4_2 y7_0 y7_1 y7_2 r21.2 else none else j3 rec k x0b x0o x1 x5 x6 y4_0 y4_1 y4_2 y7_0 y7_1 y7_2 H
noncomputable def j1 (rec:Rec) (k:Nat) (x0b:Nat) (x0o:Nat) (x1:Int) (x5:Int) (x6:Sl) (y4_0:Int) (y4_1:Sl) (y4_2:Sl) (y7_0:Int) (y7_1:Sl) (y7_2:Sl) (H:Hp):An:=bif x5 == 4 then (rec spec_l20Rd_pick.id [.ptr x0b x0o,.int .i64 3] H).bind fun r14=>(r14.1.toI .i64).bind fun n15=>j2 rec k x0b x0o x1 x5 x6 (n15 == 0) y4_0 y4_1 y4_2 y7_0 y7_1 y7_2 r14.2 else j2 rec k x0b x0o x1 x5 x6 false y4_0 y4_1 y4_2 y7_0 y7_1 y7_2 H
noncomputable def l0 (rec:Rec) (k:Nat):Nat→Nat→Nat→Int→Int→Sl→Int→Int→Sl→Sl→Int→Sl→Sl→Hp→An
 | 0,_,_,_,_,_,_,_,_,_,_,_,_,_=>none
 | n + 1,x0b,x0o,x1,x5,x6,x8,y4_0,y4_1,y4_2,y7_0,y7_1,y7_2,H=>bif decide (x8 > 0) then (rec spec_l20Rule.id [.ptr x0b x0o,.sl 1 x6,.int .i64 x5,.int .i64 0] H).bind fun r9=>bif r9.1.isAgg 3 then ((r9.1.cel 0).toI .i64).bind fun n10=>((r9.1.cel 1).toS 1).bind fun s11=>((r9.1.cel 2).toI .i64).bind fun n12=>(r9.2.app 3 y7_2 1 [.int .i64 n10,.sl 1 s11,.int .i64 n12]).bind fun w13=>(l0 rec k n) x0b x0o x1 x5 x6 (IntKind.i64.wrap (x8 - 1)) y4_0 y4_1 y4_2 y7_0 y7_1 w13.1 w13.2 else none else j1 rec k x0b x0o x1 x5 x6 y4_0 y4_1 y4_2 y7_0 y7_1 y7_2 H
noncomputable def f (rec:Rec) (k:Nat) (a0b:Nat) (a0o:Nat) (a1:Int) (H:Hp):An:=(rec spec_l20Size.id [.ptr a0b a0o,.int .i64 0] H).bind fun r1=>(r1.1.toI .i64).bind fun n2=>(rec spec_l20Solved.id [.ptr a0b a0o,.int .i64 n2] r1.2).bind fun r3=>(r3.1.toS 1).bind fun s4=>(r3.2.read 1 s4).bind fun c6=>(r3.2.appl 1 [] 0 s4.len c6).bind fun w5=>bif true && c6.all AV.cell then (rec spec_l20Rd_pick.id [.ptr a0b a0o,.int .i64 5] w5.2).bind fun r7=>(r7.1.toI .i64).bind fun n8=>l0 rec k k a0b a0o a1 n2 s4 n8 0 Sl.none Sl.none n2 w5.1 Sl.none r7.2 else none
theorem j7_eq (rec:Rec) (k:Nat) (n5:Nat) (L5:Nat→Nat→Int→Int→Sl→Int→Int→Int→Sl→Sl→Int→Sl→Sl→Hp→An) (hL5:∀ x0b x0o x1 x5 x6 x13 x14 y4_0 y4_1 y4_2 y7_0 y7_1 y7_2 H,L5 x0b x0o x1 x5 x6 x13 x14 y4_0 y4_1 y4_2 y7_0 y7_1 y7_2 H=iter (o.at (lbody (sub body [1,1,1,1,1,1,0,1,1,1,1,0]))) (ex PP o rec k (lbody (sub body [1,1,1,1,1,1,0,1,1,1,1,0]))) (kAt PP o rec k body [1,1,1,1,1,1,0,1,1,1,1,0] [] (K0 PP Go.Proofs.Try.f50)) n5 (St.of 130 [(0,.ptr x0b x0o),(1,.int .i64 x1),(4,.lp 4 0),(5,.int .i64 x5),(6,.sl 1 x6),(7,.lp 7 0),(13,.int .i64 x13),(14,.int .i64 x14)] [(4,[.int .i64 y4_0,.sl 1 y4_1,.sl 3 y4_2]),(7,[.int .i64 y7_0,.sl 1 y7_1,.sl 3 y7_2])]) H):∀ x0b x0o x1 x5 x6 x13 x14 y4_0 y4_1 y4_2 y7_0 y7_1 y7_2 H,j7 rec k L5 x0b x0o x1 x5 x6 x13 x14 y4_0 y4_1 y4_2 y7_0 y7_1 y7_2 H=ex PP o rec k (sub body [1,1,1,1,1,1,0,1,1,1,1,0,0,1,1]) (St.of 130 [(0,.ptr x0b x0o),(1,.int .i64 x1),(4,.lp 4 0),(5,.int .i64 x5),(6,.sl 1 x6),(7,.lp 7 0),(13,.int .i64 x13),(14,.int .i64 x14)] [(4,[.int .i64 y4_0,.sl 1 y4_1,.sl 3 y4_2]),(7,[.int .i64 y7_0,.sl 1 y7_1,.sl 3 y7_2])]) H (kAt PP o rec k body [1,1,1,1,1,1,0,1,1,1,1,0,0,1,1] [n5] (K0 PP Go.Proofs.Try.f50)):=by
 intros x0b x0o x1 x5 x6 x13 x14 y4_0 y4_1 y4_2 y7_0 y7_1 y7_2 H
 simp only [j7,hL5,-eq_self]
 kernel_rfl
theorem j8_eq (rec:Rec) (k:Nat):∀ y4_0 y4_1 y4_2 y7_0 y7_1 y7_2 H,j8 rec k y4_0 y4_1 y4_2 y7_0 y7_1 y7_2 H=ex PP o rec k (sub body [1,1,1,1,1,1,1,1,1]) (St.of 130 [(4,.lp 4 0),(7,.lp 7 0)] [(4,[.int .i64 y4_0,.sl 1 y4_1,.sl 3 y4_2]),(7,[.int .i64 y7_0,.sl 1 y7_1,.sl 3 y7_2])]) H (kAt PP o rec k body [1,1,1,1,1,1,1,1,1] [] (K0 PP Go.Proofs.Try.f50)):=by
 intros y4_0 y4_1 y4_2 y7_0 y7_1 y7_2 H
 unfold j8
 kernel_rfl
theorem j6_eq (rec:Rec) (k:Nat):∀ x0b x0o x1 x5 x6 y4_0 y4_1 y4_2 y7_0 y7_1 y7_2 H,j6 rec k x0b x0o x1 x5 x6 y4_0 y4_1 y4_2 y7_0 y7_1 y7_2 H=ex PP o rec k (sub body [1,1,1,1,1,1,1,1]) (St.of 130 [(0,.ptr x0b x0o),(1,.int .i64 x1),(4,.lp 4 0),(5,.int .i64 x5),(6,.sl 1 x6),(7,.lp 7 0)] [(4,[.int .i64 y4_0,.sl 1 y4_1,.sl 3 y4_2]),(7,[.int .i64 y7_0,.sl 1 y7_1,.sl 3 y7_2])]) H (kAt PP o rec k body [1,1,1,1,1,1,1,1] [] (K0 PP Go.Proofs.Try.f50)):=by
 intros x0b x0o x1 x5 x6 y4_0 y4_1 y4_2 y7_0 y7_1 y7_2 H
 unfold j6
 try simp only [j8_eq rec k,-eq_self]
 kernel_rfl
theorem j4_eq (rec:Rec) (k:Nat):∀ x0b x0o x1 x5 x6 y4_0 y4_1 y4_2 y7_0 y7_1 y7_2 H,j4 rec k x0b x0o x1 x5 x6 y4_0 y4_1 y4_2 y7_0 y7_1 y7_2 H=ex PP o rec k (sub body [1,1,1,1,1,1,1]) (St.of 130 [(0,.ptr x0b x0o),(1,.int .i64 x1),(4,.lp 4 0),(5,.int .i64 x5),(6,.sl 1 x6),(7,.lp 7 0)] [(4,[.int .i64 y4_0,.sl 1 y4_1,.sl 3 y4_2]),(7,[.int .i64 y7_0,.sl 1 y7_1,.sl 3 y7_2])]) H (kAt PP o rec k body [1,1,1,1,1,1,1] [] (K0 PP Go.Proofs.Try.f50)):=by
 intros x0b x0o x1 x5 x6 y4_0 y4_1 y4_2 y7_0 y7_1 y7_2 H
 unfold j4
 try simp only [j6_eq rec k,-eq_self]
 kernel_rfl
theorem l5_eq (rec:Rec) (k:Nat):∀ n x0b x0o x1 x5 x6 x13 x14 y4_0 y4_1 y4_2 y7_0 y7_1 y7_2 H,l5 rec k n x0b x0o x1 x5 x6 x13 x14 y4_0 y4_1 y4_2 y7_0 y7_1 y7_2 H=iter (o.at (lbody (sub body [1,1,1,1,1,1,0,1,1,1,1,0]))) (ex PP o rec k (lbody (sub body [1,1,1,1,1,1,0,1,1,1,1,0]))) (kAt PP o rec k body [1,1,1,1,1,1,0,1,1,1,1,0] [] (K0 PP Go.Proofs.Try.f50)) n (St.of 130 [(0,.ptr x0b x0o),(1,.int .i64 x1),(4,.lp 4 0),(5,.int .i64 x5),(6,.sl 1 x6),(7,.lp 7 0),(13,.int .i64 x13),(14,.int .i64 x14)] [(4,[.int .i64 y4_0,.sl 1 y4_1,.sl 3 y4_2]),(7,[.int .i64 y7_0,.sl 1 y7_1,.sl 3 y7_2])]) H:=by
 intro n
 induction n with
 | zero=>intros; rfl
 | succ n ih=>
  intros x0b x0o x1 x5 x6 x13 x14 y4_0 y4_1 y4_2 y7_0 y7_1 y7_2 H
  simp only [l5,j7_eq rec k n (l5 rec k n) (fun x0b x0o x1 x5 x6 x13 x14 y4_0 y4_1 y4_2 y7_0 y7_1 y7_2 H=>ih x0b x0o x1 x5 x6 x13 x14 y4_0 y4_1 y4_2 y7_0 y7_1 y7_2 H),j4_eq rec k,ih,-eq_self]
  kernel_rfl
theorem j3_eq (rec:Rec) (k:Nat):∀ x0b x0o x1 x5 x6 y4_0 y4_1 y4_2 y7_0 y7_1 y7_2 H,j3 rec k x0b x0o x1 x5 x6 y4_0 y4_1 y4_2 y7_0 y7_1 y7_2 H=ex PP o rec k (sub body [1,1,1,1,1,1]) (St.of 130 [(0,.ptr x0b x0o),(1,.int .i64 x1),(4,.lp 4 0),(5,.int .i64 x5),(6,.sl 1 x6),(7,.lp 7 0)] [(4,[.int .i64 y4_0,.sl 1 y4_1,.sl 3 y4_2]),(7,[.int .i64 y7_0,.sl 1 y7_1,.sl 3 y7_2])]) H (kAt PP o rec k body [1,1,1,1,1,1] [] (K0 PP Go.Proofs.Try.f50)):=by
 intros x0b x0o x1 x5 x6 y4_0 y4_1 y4_2 y7_0 y7_1 y7_2 H
 simp only [j3,j4,j6,j8,l5_eq rec k,-eq_self]
 kernel_rfl
theorem j2_eq (rec:Rec) (k:Nat):∀ x0b x0o x1 x5 x6 x46 y4_0 y4_1 y4_2 y7_0 y7_1 y7_2 H,j2 rec k x0b x0o x1 x5 x6 x46 y4_0 y4_1 y4_2 y7_0 y7_1 y7_2 H=ex PP o rec k (sub body [1,1,1,1,1,0,1]) (St.of 130 [(0,.ptr x0b x0o),(1,.int .i64 x1),(4,.lp 4 0),(5,.int .i64 x5),(6,.sl 1 x6),(7,.lp 7 0),(46,.bool x46)] [(4,[.int .i64 y4_0,.sl 1 y4_1,.sl 3 y4_2]),(7,[.int .i64 y7_0,.sl 1 y7_1,.sl 3 y7_2])]) H (kAt PP o rec k body [1,1,1,1,1,0,1] [] (K0 PP Go.Proofs.Try.f50)):=by
 intros x0b x0o x1 x5 x6 x46 y4_0 y4_1 y4_2 y7_0 y7_1 y7_2 H
 unfold j2
 try simp only [j3_eq rec k,-eq_self]
 kernel_rfl
theorem j1_eq (rec:Rec) (k:Nat):∀ x0b x0o x1 x5 x6 y4_0 y4_1 y4_2 y7_0 y7_1 y7_2 H,j1 rec k x0b x0o x1 x5 x6 y4_0 y4_1 y4_2 y7_0 y7_1 y7_2 H=ex PP o rec k (sub body [1,1,1,1,1]) (St.of 130 [(0,.ptr x0b x0o),(1,.int .i64 x1),(4,.lp 4 0),(5,.int .i64 x5),(6,.sl 1 x6),(7,.lp 7 0)] [(4,[.int .i64 y4_0,.sl 1 y4_1,.sl 3 y4_2]),(7,[.int .i64 y7_0,.sl 1 y7_1,.sl 3 y7_2])]) H (kAt PP o rec k body [1,1,1,1,1] [] (K0 PP Go.Proofs.Try.f50)):=by
 intros x0b x0o x1 x5 x6 y4_0 y4_1 y4_2 y7_0 y7_1 y7_2 H
 unfold j1
 try simp only [j2_eq rec k,-eq_self]
 kernel_rfl
theorem l0_eq (rec:Rec) (k:Nat):∀ n x0b x0o x1 x5 x6 x8 y4_0 y4_1 y4_2 y7_0 y7_1 y7_2 H,l0 rec k n x0b x0o x1 x5 x6 x8 y4_0 y4_1 y4_2 y7_0 y7_1 y7_2 H=iter (o.at (lbody (sub body [1,1,1,1,0,1,0]))) (ex PP o rec k (lbody (sub body [1,1,1,1,0,1,0]))) (kAt PP o rec k body [1,1,1,1,0,1,0] [] (K0 PP Go.Proofs.Try.f50)) n (St.of 130 [(0,.ptr x0b x0o),(1,.int .i64 x1),(4,.lp 4 0),(5,.int .i64 x5),(6,.sl 1 x6),(7,.lp 7 0),(8,.int .i64 x8)] [(4,[.int .i64 y4_0,.sl 1 y4_1,.sl 3 y4_2]),(7,[.int .i64 y7_0,.sl 1 y7_1,.sl 3 y7_2])]) H:=by
 intro n
 induction n with
 | zero=>intros; rfl
 | succ n ih=>
  intros x0b x0o x1 x5 x6 x8 y4_0 y4_1 y4_2 y7_0 y7_1 y7_2 H
  simp only [l0,j1_eq rec k,ih,-eq_self]
  kernel_rfl
theorem f_eq (rec:Rec) (k:Nat):∀ a0b a0o a1 H,f rec k a0b a0o a1 H=ex PP o rec k body (St.of 130 [(0,.ptr a0b a0o),(1,.int .i64 a1)] []) H (K0 PP Go.Proofs.Try.f50):=by
 intros a0b a0o a1 H
 unfold f
 try simp only [l0_eq rec k,-eq_self]
 kernel_rfl
theorem call (k:Nat):∀ a0b a0o a1 H,callF PP orc (k + 1) spec_l20Puzzle.id [.ptr a0b a0o,.int .i64 a1] H=f (callF PP orc k) k a0b a0o a1 H:=by
 intros a0b a0o a1 H
 rw [callF_at (fn:=Go.Proofs.Try.f50) (c:=body) Go.Proofs.Try.func50 (by kernel_rfl) (Nat.le_of_ble_eq_true (by kernel_rfl)),f_eq]
 kernel_rfl
end spec_l20Puzzle
end Go.Proofs.Ytchliocobgkmbaa.Rp
