/- Texts for the row of the law FnNarrowMore, part 20: the plain machine, the program's functions on it, what they come to. No conditions. -/
import Derived.Test.YtchliocobgkmbaaBuFnNarrowMore19
import Derived.Test.YtchliocobgkmbaaBuFnNarrowMore18
import Derived.Test.YtchliocobgkmbaaBuFnNarrowMore13
import Derived.Test.YtchliocobgkmbaaBuFnNarrowMore17
import Derived.Test.YtchliocobgkmbaaBuFnNarrowMore16
set_option linter.unusedVariables false
set_option linter.unusedSimpArgs false
namespace Go.Proofs.Ytchliocobgkmbaa.Rp
open Go Go.RowKit Go.Proofs.Ytchliocobgkmbaa.Ab
noncomputable def levV (n:Int) (given:List Int) (vs:List V) (t:Nat):List Int:=lastV (runS (narrowV n given vs) t (openOf n given)) (openOf n given)
noncomputable def doneB (n:Int) (given:List Int) (vs:List V) (t:Nat):Bool:=decide (filled (gridM n (levV n given vs t))=(levV n given vs t).length)
noncomputable def gradeFrom (n:Int) (given:List Int) (vs:List V):Nat→Nat→Int
 | 0,_=>5
 | j + 1,t=>if doneB n given vs t=true then (t:Int) else gradeFrom n given vs j (t + 1)
noncomputable def gradeV (n:Int) (given:List Int) (vs:List V):Int:=if puzzleV n given vs=true then (if oneV n given vs=true then gradeFrom n given vs 4 1 else 0) else -1
theorem lev_ok {n:Int} {given:List Int} {vs:List V} (hp:puzzleV n given vs=true) {t:Nat} (h4:t ≤ 4):masksOk n (levV n given vs t)=true:=(run_end (narrow_good hp h4) (start_ok hp).2).1
theorem allV_lev {n:Int} {given:List Int} {vs:List V} (hp:puzzleV n given vs=true) {t:Nat} (h1:1 ≤ t) (h4:t ≤ 4):(allV n given vs (openOf n given) (t:Int)).1=levV n given vs t:=by
 unfold allV
 rw [if_pos ⟨hp,(start_ok hp).2,by omega,by omega⟩,Int.toNat_natCast]
 rfl
/-! ### What a grade means -/
theorem open_in {n:Int} {given:List Int} {vs:List V} (hp:puzzleV n given vs=true) {x:List Int} (hx:x ∈ allSols n given vs):InM (openOf n given) x:=by
 have hg:=(puzzleV_grid hp).1
 obtain ⟨h1,h2,h3,_⟩:=(mem_allSols hp x).1 hx
 obtain ⟨hn,h5,h6⟩:=(gridOk_iff x n).1 h1
 have hok:=openOf_ok hg
 intro i hi
 have hig:i < given.length:=by rw [h2.1]; exact hi
 have hv:=h6 _ (mem_getD hi)
 have hpos:=h3 i hi
 rw [mv_has (masks_at hok (by rw [show (openOf n given).length=given.length by simp [openOf]]; exact hig)),show (((x.getD i 0).toNat:Nat):Int)=x.getD i 0 by omega,open_vals hg hig]
 refine ⟨by omega,fun h=>?_⟩
 rcases h2.2 i with e | e
 ·omega
 ·exact e.symm
theorem lev_in {n:Int} {given:List Int} {vs:List V} (hp:puzzleV n given vs=true) {t:Nat} (h4:t ≤ 4) {x:List Int} (hx:x ∈ allSols n given vs):InM (levV n given vs t) x:=run_keeps hp h4 hx (start_ok hp).2 (open_in hp hx)
theorem solG {n:Int} {given:List Int} {vs:List V} (hp:puzzleV n given vs=true) {x:List Int} (hx:x ∈ allSols n given vs):gridOk x n=true∧full x:=⟨((mem_allSols hp x).1 hx).1,((mem_allSols hp x).1 hx).2.2.1⟩
/-! ### Both sides -/
theorem iGrade_l0 {k:Nat} (hk:2000100 ≤ k) {H0:Hp} {n:Int} {gs s:Sl} {given:List Int} {rs:List R} (hz:PuzAt H0 n gs s given rs) (hp:puzzleV n given (rs.map R.val)=true) :
  ∀ (j t fuel:Nat) (H:Hp),t + j=5→1 ≤ t→j < fuel→H0 <+: H→∃ H',impl_GradePuzzle.l0 (callF PP orc k) k fuel (t:Int) n gs s H=some (.int .i64 (gradeFrom n given (rs.map R.val) j t),H')∧H0 <+: H':=by
 have hn:=hz.n4
 obtain ⟨s1,s2⟩:=start_ok hp
 obtain ⟨q1,q2,q3⟩:=dm_of s2
 intro j
 induction j with
 | zero=>
  intro t fuel H ht h1 hf hpf
  obtain ⟨fuel,rfl⟩:=Zs fuel (by omega)
  exact ⟨H,by simp (disch:=omega) only [impl_GradePuzzle.l0,df,Zf,gradeFrom],hpf⟩
 | succ j ih=>
  intro t fuel H ht h1 hf hpf
  obtain ⟨fuel,rfl⟩:=Zs fuel (by omega)
  obtain ⟨u,H1,a1,a2,a3⟩:=implStartMasks_ok (show 2000010 ≤ k by omega) (hz.pf hpf)
  rw [s1] at a3
  have ho:=nil_own a3 (ok_ne s2)
  obtain ⟨v,H2,b1,b2,b3⟩:=implNarrowAll_ok (show 2000070 ≤ k by omega) (hz.pf (hpf.trans a2)) (own_reads ho) ho.nn (by omega) q3 (t:Int)
  rw [allV_lev hp h1 (by omega)] at b3
  have hl:=lev_ok hp (show t ≤ 4 by omega)
  obtain ⟨r1,r2,r3⟩:=dm_of hl
  have hvl:=b3.reads.len
  obtain ⟨w,H3,c1,c2,c3⟩:=implMasksGrid_ok (show 2000010 ≤ k by omega) (n:=n) (by omega) b3.reads (by omega) r3
  obtain ⟨g1,g2⟩:=gridM_ok hl
  have h4:=implGridFilled_ok (show 2000001 ≤ k by omega) c3.reads (by omega) n
  rw [ip g1] at h4
  have p3:=(hpf.trans a2).trans (b2.trans c2)
  rw [gradeFrom]
  by_cases c:doneB n given (rs.map R.val) t=true
  ·rw [if_pos c]
   unfold doneB at c
   rw [decide_eq_true_eq] at c
   refine ⟨H3,?_,p3⟩
   simp (disch:=omega) only [impl_GradePuzzle.l0,dt,Zt,a1,b1,c1,h4,Zo,AV.isTup,AV.nth,AV.toI,AV.toS,Zl,Zm,Zc,Zd,if_true,decide_true,beq_self_eq_true,hvl,bt]
  ·rw [if_neg c]
   unfold doneB at c
   rw [decide_eq_true_eq] at c
   obtain ⟨H',d1,d2⟩:=ih (t + 1) fuel H3 (by omega) (by omega) (by omega) p3
   push_cast at d1
   refine ⟨H',?_,d2⟩
   simp (disch:=omega) only [impl_GradePuzzle.l0,dt,Zt,Zf,a1,b1,c1,h4,Zo,AV.isTup,AV.nth,AV.toI,AV.toS,Zl,Zm,Zc,Zd,if_true,decide_true,beq_self_eq_true,hvl,bf,wr (n:=(t:Int) + 1),d1]
theorem implGradePuzzle_ok {k:Nat} (hk:2000520 ≤ k) {H:Hp} {n:Int} {gs s:Sl} {given:List Int} {rs:List R} (hz:PuzAt H n gs s given rs) (hnil:gs.nil=false) :
  ∃ H',callF PP orc k impl_GradePuzzle.id [.agg [.int .i64 n,.sl 1 gs,.sl 3 s]] H=some (.int .i64 (gradeV n given (rs.map R.val)),H')∧H <+: H':=by
 obtain ⟨k,rfl⟩:=Zs k (by omega)
 rw [impl_GradePuzzle.call]
 have h1:=implPuzzleValid_ok (show 2000003 ≤ k by omega) hz.n4 hz.rg hz.gl hz.rr hz.rl hz.rc
 rw [puzzle_map] at h1
 obtain ⟨H1,a1,a2⟩:=onlyOne_ok (show 2000511 ≤ k by omega) hz hnil
 unfold gradeV
 unfold minimalOk at a1
 cases e1:puzzleV n given (rs.map R.val) with
 | false=>
  rw [e1] at h1
  rw [iN (by simp)]
  exact ⟨H,by simp only [impl_GradePuzzle.f,dt,df,bt,bf,nt,nf,Za,Zy,Zx,Zt,Zf,Zn,Zz,Zi,Zo,wr,AV.toB,AV.toI,AV.toS,if_true,h1],(List.prefix_refl _)⟩
 | true=>
  rw [e1] at h1 a1
  rw [ip rfl]
  rw [Bool.true_and] at a1
  cases e2:oneV n given (rs.map R.val) with
  | false=>
   rw [e2] at a1
   rw [iN (by simp)]
   exact ⟨H1,by simp only [impl_GradePuzzle.f,dt,df,bt,bf,nt,nf,Za,Zy,Zx,Zt,Zf,Zn,Zz,Zi,Zo,wr,AV.toB,AV.toI,AV.toS,if_true,h1,a1],a2⟩
  | true=>
   rw [e2] at a1
   rw [ip rfl]
   obtain ⟨H',b1,b2⟩:=iGrade_l0 (show 2000100 ≤ k by omega) hz e1 4 1 k H1 (by omega) (by omega) (by omega) a2
   refine ⟨H',?_,b2⟩
   simp only [Int.natCast_one] at b1
   simp only [impl_GradePuzzle.f,Zo,AV.toB,Zy,Zf,h1,a1,b1]
theorem sGrade_l0 {k:Nat} (hk:2000100 ≤ k) {H0:Hp} {n:Int} {gs s:Sl} {given:List Int} {rs:List R} (hz:PuzAt H0 n gs s given rs) (hp:puzzleV n given (rs.map R.val)=true) :
  ∀ (j t fuel:Nat) (H:Hp),t + j=5→1 ≤ t→j < fuel→H0 <+: H→∃ H',spec_GradePuzzle.l0 (callF PP orc k) k fuel (t:Int) n gs s H=some (.int .i64 (gradeFrom n given (rs.map R.val) j t),H')∧H0 <+: H':=by
 have hn:=hz.n4
 obtain ⟨s1,s2⟩:=start_ok hp
 obtain ⟨q1,q2,q3⟩:=dm_of s2
 intro j
 induction j with
 | zero=>
  intro t fuel H ht h1 hf hpf
  obtain ⟨fuel,rfl⟩:=Zs fuel (by omega)
  exact ⟨H,by simp (disch:=omega) only [spec_GradePuzzle.l0,df,Zf,gradeFrom],hpf⟩
 | succ j ih=>
  intro t fuel H ht h1 hf hpf
  obtain ⟨fuel,rfl⟩:=Zs fuel (by omega)
  obtain ⟨u,H1,a1,a2,a3⟩:=specStartMasks_ok (show 2000010 ≤ k by omega) (hz.pf hpf)
  rw [s1] at a3
  obtain ⟨v,H2,b1,b2,b3⟩:=specNarrowAll_ok (show 2000070 ≤ k by omega) (hz.pf (hpf.trans a2)) (own_reads a3) (by omega) (t:Int)
  rw [allV_lev hp h1 (by omega)] at b3
  have hl:=lev_ok hp (show t ≤ 4 by omega)
  obtain ⟨r1,r2,r3⟩:=dm_of hl
  have hvl:=(own_reads b3).len
  obtain ⟨w,H3,c1,c2,c3⟩:=specMasksGrid_ok (show 2000010 ≤ k by omega) (n:=n) (by omega) (own_reads b3) (by omega)
  obtain ⟨g1,g2⟩:=gridM_ok hl
  have h4:=specGridFilled_ok (show 2000001 ≤ k by omega) (own_reads c3) (by omega) n
  rw [ip g1] at h4
  have p3:=(hpf.trans a2).trans (b2.trans c2)
  rw [gradeFrom]
  by_cases c:doneB n given (rs.map R.val) t=true
  ·rw [if_pos c]
   unfold doneB at c
   rw [decide_eq_true_eq] at c
   refine ⟨H3,?_,p3⟩
   simp (disch:=omega) only [spec_GradePuzzle.l0,dt,Zt,a1,b1,c1,h4,Zo,AV.isTup,AV.nth,AV.toI,AV.toS,Zl,Zm,Zc,Zd,if_true,decide_true,beq_self_eq_true,hvl,bt]
  ·rw [if_neg c]
   unfold doneB at c
   rw [decide_eq_true_eq] at c
   obtain ⟨H',d1,d2⟩:=ih (t + 1) fuel H3 (by omega) (by omega) (by omega) p3
   push_cast at d1
   refine ⟨H',?_,d2⟩
   simp (disch:=omega) only [spec_GradePuzzle.l0,dt,Zt,Zf,a1,b1,c1,h4,Zo,AV.isTup,AV.nth,AV.toI,AV.toS,Zl,Zm,Zc,Zd,if_true,decide_true,beq_self_eq_true,hvl,bf,wr (n:=(t:Int) + 1),d1]
theorem specGradePuzzle_ok {k:Nat} (hk:2000520 ≤ k) {H:Hp} {n:Int} {gs s:Sl} {given:List Int} {rs:List R} (hz:PuzAt H n gs s given rs) :
  ∃ H',callF PP orc k spec_GradePuzzle.id [.agg [.int .i64 n,.sl 1 gs,.sl 3 s]] H=some (.int .i64 (gradeV n given (rs.map R.val)),H')∧H <+: H':=by
 obtain ⟨k,rfl⟩:=Zs k (by omega)
 rw [spec_GradePuzzle.call]
 have h1:=specPuzzleValid_ok (show 2000003 ≤ k by omega) hz.n4 hz.rg hz.gl hz.rr hz.rl hz.rc
 rw [puzzle_map] at h1
 obtain ⟨x,H1,a1,a2,a3⟩:=specl5All_ok (show 2000200 ≤ k by omega) hz (most:=2) (by omega) (by omega)
 have a1':callF PP orc k spec_l5All.id [.agg [.int .i64 n,.sl 1 gs,.sl 3 s],.int .i64 2] H=some (.sl 1 x,H1):=a1
 have hxl:=a3.len
 unfold gradeV
 cases e1:puzzleV n given (rs.map R.val) with
 | false=>
  rw [e1] at h1
  rw [iN (by simp)]
  exact ⟨H,by simp only [spec_GradePuzzle.f,dt,df,bt,bf,nt,nf,Za,Zy,Zx,Zt,Zf,Zn,Zz,Zi,Zo,wr,AV.toB,AV.toI,AV.toS,if_true,h1],(List.prefix_refl _)⟩
 | true=>
  rw [e1] at h1
  rw [ip rfl]
  by_cases c:((allSols n given (rs.map R.val)).take 2).length=1
  ·rw [ip (show oneV n given (rs.map R.val)=true by unfold oneV; exact decide_eq_true c)]
   have hx1:(x.len:Int)=1:=by omega
   obtain ⟨H',b1,b2⟩:=sGrade_l0 (show 2000100 ≤ k by omega) hz e1 4 1 k H1 (by omega) (by omega) (by omega) a2
   refine ⟨H',?_,b2⟩
   simp only [Int.natCast_one] at b1
   simp only [spec_GradePuzzle.f,Zo,AV.toB,AV.toS,if_true,Zy,Zf,h1,a1',nf hx1,b1]
  ·rw [iN (show ¬ oneV n given (rs.map R.val)=true by unfold oneV; rw [decide_eq_true_eq]; exact c)]
   have hx1:(x.len:Int) ≠ 1:=by omega
   exact ⟨H1,by simp only [spec_GradePuzzle.f,Zo,AV.toB,AV.toS,if_true,Zy,Zf,Zt,h1,a1',nt hx1],a2⟩
theorem sub_zero {a b:Int} (ha:M a) (hb:M b) (h:∀ v:Nat,has a v=true→has b v=true):mSub a b=0:=by
 apply Classical.byContradiction
 intro hc
 obtain ⟨v,hv⟩:=(ne_zero_has (M.sub ha hb)).1 hc
 rw [has_sub ha hb,Bool.and_eq_true,Bool.not_eq_true'] at hv
 rw [h v hv.1] at hv
 exact absurd hv.2 (by simp)
theorem within_l0 (rec:Rec) (k:Nat) {H:Hp} {s t:Sl} {x y:List Int} (hs:Reads .i64 H s x) (ht:Reads .i64 H t y) (hx:Ms x) (hy:Ms y) (h:SubM x y) (h1:x.length ≤ 1000) :
  ∀ (j i fuel:Nat),i + j=x.length→j < fuel→laws_within.l0 rec k fuel s t i H=some (.bool true,H):=by
 have hsl:=hs.len
 have htl:=ht.len
 have hl:=h.1
 intro j
 induction j with
 | zero=>
  intro i fuel hi hf
  obtain ⟨fuel,rfl⟩:=Zs fuel (by omega)
  simp (disch:=omega) only [laws_within.l0,dt,df,bt,bf,nt,nf,Za,Zy,Zx,Zt,Zf,Zn,Zz,Zi,Zo,wr,AV.toB,AV.toI,AV.toS,if_true]
 | succ j ih=>
  intro i fuel hi hf
  obtain ⟨fuel,rfl⟩:=Zs fuel (by omega)
  have d1:=ih (i + 1) fuel (by omega) (by omega)
  push_cast at d1
  have e:=sub_zero (hx.at i) (hy.at i) fun v hv=>h.2 i v (by omega) hv
  simp (disch:=omega) only [laws_within.l0,dt,nf,Za,Zt,Zf,Zn,Zo,rdn hs,rdn ht,m_sub (hx.at i) (hy.at i),e,wr (n:=(i:Int) + 1),d1]
theorem within_ok {k:Nat} (hk:2000000 ≤ k) {H:Hp} {s t:Sl} {x y:List Int} (hs:Reads .i64 H s x) (ht:Reads .i64 H t y) (hx:Ms x) (hy:Ms y) (h:SubM x y) (h1:x.length ≤ 1000) :
  callF PP orc k laws_within.id [.sl 1 s,.sl 1 t] H=some (.bool true,H):=by
 obtain ⟨k,rfl⟩:=Zs k (by omega)
 rw [laws_within.call]
 have hsl:=hs.len
 have htl:=ht.len
 have hl:=h.1
 have d1:=within_l0 (callF PP orc k) k hs ht hx hy h h1 x.length 0 k (by omega) (by omega)
 simp only [Int.natCast_zero] at d1
 simp (disch:=omega) only [laws_within.f,nf,Zf,d1]
theorem first_mem' {n:Int} {given:List Int} {vs:List V} {x:List Int} (h:firstV n given vs=some x):puzzleV n given vs=true∧x ∈ allSols n given vs:=by
 have h2:x ∈ allSols n given vs:=List.mem_of_mem_head? h
 refine ⟨?_,h2⟩
 cases e:puzzleV n given vs with
 | true=>rfl
 | false=>
  unfold allSols puzzleFitsV at h2
  rw [e] at h2
  simp at h2
theorem NarrowMore_law {k:Nat} (hk:2000800 ≤ k) {H:Hp} {s:Sl} {l:List Int} (hs:Reads .u8 H s l) (hb:∀ x ∈ l,0 ≤ x∧x ≤ 255) :
  ∃ H',callF PP orc k laws_FnNarrowMore.id [.sl 1 s] H=some (.bool true,H'):=by
 obtain ⟨k,rfl⟩:=Zs k (by omega)
 rw [laws_FnNarrowMore.call]
 by_cases hbig:(s.len:Int) > 1048576
 ·exact ⟨H,by simp only [laws_FnNarrowMore.f,dt hbig,Zt]⟩
 ·obtain ⟨n,gs,ss,given,rs,H1,a1,a2,a3⟩:=DrawGradePuzzle_ok (show 2000501 ≤ k by omega) hs hb
  have hz:=a3.at'
  have hn:=hz.n4
  obtain ⟨H2,b1,b2⟩:=implGradePuzzle_ok (show 2000520 ≤ k by omega) hz a3.gn
  obtain ⟨H3,c1,c2⟩:=specGradePuzzle_ok (show 2000520 ≤ k by omega) (hz.pf b2)
  have hz3:=hz.pf (b2.trans c2)
  obtain ⟨u,H4,d1,d2⟩:=implSolveFirst_ok (show 2000510 ≤ k by omega) hz3 a3.gn
  unfold laws_FnNarrowMore.f
  rw [df hbig,cond_false,a1,Option.bind_some]
  simp only [AV.isTup,AV.nth,AV.isAgg,AV.cel,AV.toI,AV.toS,AV.toB,Zl,Zm,Zc,Zd,if_true,decide_true,beq_self_eq_true,Zt,Zf,Zy,Zx,Zo]
  rw [b1,Option.bind_some]
  simp only [AV.isTup,AV.nth,AV.isAgg,AV.cel,AV.toI,AV.toS,AV.toB,Zl,Zm,Zc,Zd,if_true,decide_true,beq_self_eq_true,Zt,Zf,Zy,Zx,Zo]
  rw [c1,Option.bind_some]
  simp only [AV.isTup,AV.nth,AV.isAgg,AV.cel,AV.toI,AV.toS,AV.toB,Zl,Zm,Zc,Zd,if_true,decide_true,beq_self_eq_true,Zt,Zf,Zy,Zx,Zo]
  rw [nf rfl,cond_false]
  rcases d2 with ⟨f1,d2,d3⟩ | ⟨x,f1,d2,d3⟩
  ·obtain ⟨H5,e1,e2⟩:=alive_ok (show 2000002 ≤ k by omega) H4
   refine ⟨H5,?_⟩
   rw [d2,Option.bind_some]
   simp only [AV.isTup,AV.nth,AV.isAgg,AV.cel,AV.toI,AV.toS,AV.toB,Zl,Zm,Zc,Zd,if_true,decide_true,beq_self_eq_true,Zt,Zf,Zy,Zx,Zo]
   rw [e1,Option.bind_some]
   simp only [AV.isTup,AV.nth,AV.isAgg,AV.cel,AV.toI,AV.toS,AV.toB,Zl,Zm,Zc,Zd,if_true,decide_true,beq_self_eq_true,Zt,Zf,Zy,Zx,Zo]
  ·obtain ⟨hp,hx⟩:=first_mem' f1
   obtain ⟨s1,s2⟩:=start_ok hp
   obtain ⟨q1,q2,q3⟩:=dm_of s2
   have hx16:=gridOk_len (solG hp hx).1
   have hz4:=hz3.pf d1
   obtain ⟨w,H5,e1,e2,e3⟩:=implStartMasks_ok (show 2000010 ≤ k by omega) hz4
   rw [s1] at e3
   have ho:=nil_own e3 (ok_ne s2)
   have hz5:=hz4.pf e2
   obtain ⟨v2,H6,g1,g2,g3⟩:=implNarrowAll_ok (show 2000070 ≤ k by omega) hz5 (own_reads ho) ho.nn (by omega) q3 2
   obtain ⟨v4,H7,h1,h2,h3⟩:=implNarrowAll_ok (show 2000070 ≤ k by omega) (hz5.pf g2) (pf_reads g2 (own_reads ho)) ho.nn (by omega) q3 4
   obtain ⟨v1,H8,i1,i2,i3⟩:=implNarrowAll_ok (show 2000070 ≤ k by omega) (hz5.pf (g2.trans h2)) (pf_reads (g2.trans h2) (own_reads ho)) ho.nn (by omega) q3 1
   have t2:=allV_lev hp (t:=2) (by omega) (by omega)
   have t4:=allV_lev hp (t:=4) (by omega) (by omega)
   have t1:=allV_lev hp (t:=1) (by omega) (by omega)
   have t2':(allV n given (rs.map R.val) (openOf n given) 2).1=levV n given (rs.map R.val) 2:=t2
   have t4':(allV n given (rs.map R.val) (openOf n given) 4).1=levV n given (rs.map R.val) 4:=t4
   have t1':(allV n given (rs.map R.val) (openOf n given) 1).1=levV n given (rs.map R.val) 1:=t1
   rw [t2'] at g3
   rw [t4'] at h3
   rw [t1'] at i3
   have l1:=lev_ok hp (show 1 ≤ 4 by omega)
   have l2:=lev_ok hp (show 2 ≤ 4 by omega)
   have l4:=lev_ok hp (show 4 ≤ 4 by omega)
   have hin:=open_in hp hx
   have r2:=pf_reads (h2.trans i2) g3.reads
   have r4:=pf_reads i2 h3.reads
   have r0:=pf_reads (g2.trans (h2.trans i2)) (own_reads ho)
   have rx:=pf_reads (e2.trans (g2.trans (h2.trans i2))) d3
   have w1:=within_ok (show 2000000 ≤ k by omega) r2 i3.reads (masks_M l2) (masks_M l1) (run_more hp (show 1 ≤ 2 by omega) (by omega) hx s2 hin) (by have:=(dm_of l2).1; omega)
   have w2:=within_ok (show 2000000 ≤ k by omega) r4 r0 (masks_M l4) (masks_M s2) (run_end (narrow_good hp (Nat.le_refl 4)) s2).2.1 (by have:=(dm_of l4).1; omega)
   have m4:=implMasksHave_ok (show 2000010 ≤ k by omega) (n:=n) (by omega) r4 rx (by have:=(dm_of l4).1; omega) (dm_of l4).2.2 (by omega)
   have m2:=implMasksHave_ok (show 2000010 ≤ k by omega) (n:=n) (by omega) r2 rx (by have:=(dm_of l2).1; omega) (dm_of l2).2.2 (by omega)
   rw [haveV_iff.2 ⟨l4,(solG hp hx).1,lev_in hp (by omega) hx⟩] at m4
   rw [haveV_iff.2 ⟨l2,(solG hp hx).1,lev_in hp (by omega) hx⟩] at m2
   refine ⟨H8,?_⟩
   rw [d2,Option.bind_some]
   simp only [AV.isTup,AV.nth,AV.isAgg,AV.cel,AV.toI,AV.toS,AV.toB,Zl,Zm,Zc,Zd,if_true,decide_true,beq_self_eq_true,Zt,Zf,Zy,Zx,Zo]
   rw [e1,Option.bind_some]
   simp only [AV.isTup,AV.nth,AV.isAgg,AV.cel,AV.toI,AV.toS,AV.toB,Zl,Zm,Zc,Zd,if_true,decide_true,beq_self_eq_true,Zt,Zf,Zy,Zx,Zo]
   rw [g1,Option.bind_some]
   simp only [AV.isTup,AV.nth,AV.isAgg,AV.cel,AV.toI,AV.toS,AV.toB,Zl,Zm,Zc,Zd,if_true,decide_true,beq_self_eq_true,Zt,Zf,Zy,Zx,Zo]
   rw [h1,Option.bind_some]
   simp only [AV.isTup,AV.nth,AV.isAgg,AV.cel,AV.toI,AV.toS,AV.toB,Zl,Zm,Zc,Zd,if_true,decide_true,beq_self_eq_true,Zt,Zf,Zy,Zx,Zo]
   rw [i1,Option.bind_some]
   simp only [AV.isTup,AV.nth,AV.isAgg,AV.cel,AV.toI,AV.toS,AV.toB,Zl,Zm,Zc,Zd,if_true,decide_true,beq_self_eq_true,Zt,Zf,Zy,Zx,Zo]
   rw [w1,Option.bind_some]
   simp only [AV.isTup,AV.nth,AV.isAgg,AV.cel,AV.toI,AV.toS,AV.toB,Zl,Zm,Zc,Zd,if_true,decide_true,beq_self_eq_true,Zt,Zf,Zy,Zx,Zo]
   rw [w2,Option.bind_some]
   simp only [AV.isTup,AV.nth,AV.isAgg,AV.cel,AV.toI,AV.toS,AV.toB,Zl,Zm,Zc,Zd,if_true,decide_true,beq_self_eq_true,Zt,Zf,Zy,Zx,Zo]
   rw [m4,Option.bind_some]
   simp only [AV.isTup,AV.nth,AV.isAgg,AV.cel,AV.toI,AV.toS,AV.toB,Zl,Zm,Zc,Zd,if_true,decide_true,beq_self_eq_true,Zt,Zf,Zy,Zx,Zo]
   rw [m2,Option.bind_some]
   simp only [AV.isTup,AV.nth,AV.isAgg,AV.cel,AV.toI,AV.toS,AV.toB,Zl,Zm,Zc,Zd,if_true,decide_true,beq_self_eq_true,Zt,Zf,Zy,Zx,Zo]
end Go.Proofs.Ytchliocobgkmbaa.Rp
