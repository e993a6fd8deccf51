/- Texts for the row of the law FnGradePuzzle, part 20: the plain machine, the program's functions on it, what they come to. No conditions. -/
import Derived.Test.YtchliocobgkmbaaBuFnGradePuzzle19
import Derived.Test.YtchliocobgkmbaaBuFnGradePuzzle18
import Derived.Test.YtchliocobgkmbaaBuFnGradePuzzle13
import Derived.Test.YtchliocobgkmbaaBuFnGradePuzzle14
import Derived.Test.YtchliocobgkmbaaBuFnGradePuzzle16
set_option linter.unusedVariables false
set_option linter.unusedSimpArgs false
namespace Go.Proofs.Ytchliocobgkmbaa.Rp
open Go Go.RowKit Go.Proofs.Ytchliocobgkmbaa.Ab
noncomputable def levV (n:Int) (given:List Int) (vs:List V) (t:Nat):List Int:=lastV (runS (narrowV n given vs) t (openOf n given)) (openOf n given)
noncomputable def doneB (n:Int) (given:List Int) (vs:List V) (t:Nat):Bool:=decide (filled (gridM n (levV n given vs t))=(levV n given vs t).length)
noncomputable def gradeFrom (n:Int) (given:List Int) (vs:List V):Nat→Nat→Int
 | 0,_=>5
 | j + 1,t=>if doneB n given vs t=true then (t:Int) else gradeFrom n given vs j (t + 1)
noncomputable def gradeV (n:Int) (given:List Int) (vs:List V):Int:=if puzzleV n given vs=true then (if oneV n given vs=true then gradeFrom n given vs 4 1 else 0) else -1
theorem lev_ok {n:Int} {given:List Int} {vs:List V} (hp:puzzleV n given vs=true) {t:Nat} (h4:t ≤ 4):masksOk n (levV n given vs t)=true:=(run_end (narrow_good hp h4) (start_ok hp).2).1
theorem allV_lev {n:Int} {given:List Int} {vs:List V} (hp:puzzleV n given vs=true) {t:Nat} (h1:1 ≤ t) (h4:t ≤ 4):(allV n given vs (openOf n given) (t:Int)).1=levV n given vs t:=by
 unfold allV
 rw [if_pos ⟨hp,(start_ok hp).2,by omega,by omega⟩,Int.toNat_natCast]
 rfl
/-! ### What a grade means -/
theorem open_in {n:Int} {given:List Int} {vs:List V} (hp:puzzleV n given vs=true) {x:List Int} (hx:x ∈ allSols n given vs):InM (openOf n given) x:=by
 have hg:=(puzzleV_grid hp).1
 obtain ⟨h1,h2,h3,_⟩:=(mem_allSols hp x).1 hx
 obtain ⟨hn,h5,h6⟩:=(gridOk_iff x n).1 h1
 have hok:=openOf_ok hg
 intro i hi
 have hig:i < given.length:=by rw [h2.1]; exact hi
 have hv:=h6 _ (mem_getD hi)
 have hpos:=h3 i hi
 rw [mv_has (masks_at hok (by rw [show (openOf n given).length=given.length by simp [openOf]]; exact hig)),show (((x.getD i 0).toNat:Nat):Int)=x.getD i 0 by omega,open_vals hg hig]
 refine ⟨by omega,fun h=>?_⟩
 rcases h2.2 i with e | e
 ·omega
 ·exact e.symm
theorem lev_in {n:Int} {given:List Int} {vs:List V} (hp:puzzleV n given vs=true) {t:Nat} (h4:t ≤ 4) {x:List Int} (hx:x ∈ allSols n given vs):InM (levV n given vs t) x:=run_keeps hp h4 hx (start_ok hp).2 (open_in hp hx)
theorem solG {n:Int} {given:List Int} {vs:List V} (hp:puzzleV n given vs=true) {x:List Int} (hx:x ∈ allSols n given vs):gridOk x n=true∧full x:=⟨((mem_allSols hp x).1 hx).1,((mem_allSols hp x).1 hx).2.2.1⟩
theorem grid_eq {n:Int} {l x:List Int} (hl:masksOk n l=true) (hg:gridOk x n=true) (hf:full x) (hin:InM l x):gridM n l=x ↔ filled (gridM n l)=l.length:=by
 obtain ⟨g1,g2⟩:=gridM_ok hl
 have hlen:=square_len hl hg
 constructor
 ·intro h; rw [h,filled_eq.2 hf,hlen]
 ·intro h
  rw [← g2] at h
  have hfu:=filled_eq.1 h
  refine ext_getD (by omega) fun i hi=>?_
  have h1:=hfu i hi
  rw [gridM_at hl (by omega)] at h1 ⊢
  obtain ⟨o1,o2⟩:=oneOf_single (masks_at hl (show i < l.length by omega))
  have hs:single (l.getD i 0)=true:=by
   cases e:single (l.getD i 0) with
   | true=>rfl
   | false=>have:=o1.2 e; omega
  have hm:=hin.mem hl hg (show i < x.length by omega)
  rw [(o2 hs).1,List.mem_singleton] at hm
  exact hm.symm
theorem done_iff {n:Int} {given:List Int} {vs:List V} (hp:puzzleV n given vs=true) {t:Nat} (h4:t ≤ 4) {x:List Int} (hx:x ∈ allSols n given vs):doneB n given vs t=true ↔ gridM n (levV n given vs t)=x:=by
 obtain ⟨h1,h2⟩:=solG hp hx
 rw [grid_eq (lev_ok hp h4) h1 h2 (lev_in hp h4 hx)]
 unfold doneB
 rw [decide_eq_true_eq]
theorem sub_same {n:Int} {a b:List Int} (ha:masksOk n a=true) (hb:masksOk n b=true) (hs:SubM a b) {x:List Int} (hg:gridOk x n=true) (hin:InM a x) (hone:∀ i,i < b.length→maskVals (b.getD i 0)=[x.getD i 0]):a=b:=by
 refine ext_getD hs.1 fun i hi=>?_
 have hib:i < b.length:=by rw [← hs.1]; exact hi
 have hlen:=square_len ha hg
 have h1:=cnt_sub (masks_at ha hi) (masks_at hb hib) (fun v hv=>hs.2 i v hib hv)
 have h2:cntM (b.getD i 0)=1:=by unfold cntM; rw [hone i hib]; rfl
 have h3:0 < cntM (a.getD i 0):=by unfold cntM; exact List.length_pos_of_mem (hin.mem ha hg (show i < x.length by omega))
 exact h1.2 (by omega)
theorem sub_one {n:Int} {a b:List Int} (ha:masksOk n a=true) (hb:masksOk n b=true) (hs:SubM a b) {x:List Int} (hg:gridOk x n=true) (hin:InM a x) (hone:∀ i,i < b.length→maskVals (b.getD i 0)=[x.getD i 0]):∀ i,i < a.length→maskVals (a.getD i 0)=[x.getD i 0]:=by
 rw [sub_same ha hb hs hg hin hone]; exact hone
theorem grid_one {n:Int} {l x:List Int} (hl:masksOk n l=true) (hf:full x) (h:gridM n l=x):∀ i,i < l.length→maskVals (l.getD i 0)=[x.getD i 0]:=by
 intro i hi
 obtain ⟨o1,o2⟩:=oneOf_single (masks_at hl hi)
 have h1:=hf i (by rw [← h,(gridM_ok hl).2]; exact hi)
 rw [← h,gridM_at hl hi] at h1 ⊢
 have hs:single (l.getD i 0)=true:=by
  cases e:single (l.getD i 0) with
  | true=>rfl
  | false=>have:=o1.2 e; omega
 exact (o2 hs).1
theorem one_grid {n:Int} {l x:List Int} (hl:masksOk n l=true) (hg:gridOk x n=true) (h:∀ i,i < l.length→maskVals (l.getD i 0)=[x.getD i 0]):gridM n l=x:=by
 have hlen:=square_len hl hg
 obtain ⟨g1,g2⟩:=gridM_ok hl
 refine ext_getD (by omega) fun i hi=>?_
 rw [gridM_at hl (by omega)]
 unfold oneOf
 rw [h i (by omega)]
 rfl
theorem done_mono {n:Int} {given:List Int} {vs:List V} (hp:puzzleV n given vs=true) {a b:Nat} (hab:a ≤ b) (hb:b ≤ 4) {x:List Int} (hx:x ∈ allSols n given vs) (h:doneB n given vs a=true):doneB n given vs b=true:=by
 obtain ⟨h1,h2⟩:=solG hp hx
 rw [done_iff hp (by omega) hx] at h
 rw [done_iff hp hb hx]
 refine one_grid (lev_ok hp hb) h1 ?_
 exact sub_one (lev_ok hp hb) (lev_ok hp (show a ≤ 4 by omega)) (run_more hp hab hb hx (start_ok hp).2 (open_in hp hx)) h1 (lev_in hp hb hx) (grid_one (lev_ok hp (show a ≤ 4 by omega)) h2 h)
theorem gradeFrom_rg {n:Int} {given:List Int} {vs:List V}:∀ (j t:Nat),t + j=5→(t:Int) ≤ gradeFrom n given vs j t∧gradeFrom n given vs j t ≤ 5
 | 0,t,h=>by simp [gradeFrom]; omega
 | j + 1,t,h=>by
  rw [gradeFrom]
  have:=gradeFrom_rg (n:=n) (given:=given) (vs:=vs) j (t + 1) (by omega)
  split <;> (push_cast at this; omega)
theorem grade_le {n:Int} {given:List Int} {vs:List V} (hp:puzzleV n given vs=true) {x:List Int} (hx:x ∈ allSols n given vs):∀ (j t u:Nat),t + j=5→t ≤ u→u ≤ 4→(gradeFrom n given vs j t ≤ (u:Int) ↔ doneB n given vs u=true)
 | 0,t,u,h,h1,h2=>by omega
 | j + 1,t,u,h,h1,h2=>by
  rw [gradeFrom]
  by_cases c:doneB n given vs t=true
  ·rw [if_pos c]
   exact ⟨fun _=>done_mono hp h1 h2 hx c,fun _=>by omega⟩
  ·rw [if_neg c]
   by_cases e:t=u
   ·subst e
    have:=(gradeFrom_rg (n:=n) (given:=given) (vs:=vs) j (t + 1) (by omega)).1
    push_cast at this
    exact ⟨fun h=>by omega,fun h=>absurd h c⟩
   ·exact grade_le hp hx j (t + 1) u (by omega) (by omega) h2
theorem one_first {n:Int} {given:List Int} {vs:List V} (h:oneV n given vs=true):∃ x,firstV n given vs=some x∧x ∈ allSols n given vs:=by
 unfold oneV at h
 rw [decide_eq_true_eq] at h
 unfold firstV
 cases e:allSols n given vs with
 | nil=>rw [e] at h; simp at h
 | cons x L=>exact ⟨x,rfl,by simp⟩
/-! ### Both sides -/
theorem iGrade_l0 {k:Nat} (hk:2000100 ≤ k) {H0:Hp} {n:Int} {gs s:Sl} {given:List Int} {rs:List R} (hz:PuzAt H0 n gs s given rs) (hp:puzzleV n given (rs.map R.val)=true) :
  ∀ (j t fuel:Nat) (H:Hp),t + j=5→1 ≤ t→j < fuel→H0 <+: H→∃ H',impl_GradePuzzle.l0 (callF PP orc k) k fuel (t:Int) n gs s H=some (.int .i64 (gradeFrom n given (rs.map R.val) j t),H')∧H0 <+: H':=by
 have hn:=hz.n4
 obtain ⟨s1,s2⟩:=start_ok hp
 obtain ⟨q1,q2,q3⟩:=dm_of s2
 intro j
 induction j with
 | zero=>
  intro t fuel H ht h1 hf hpf
  obtain ⟨fuel,rfl⟩:=Zs fuel (by omega)
  exact ⟨H,by simp (disch:=omega) only [impl_GradePuzzle.l0,df,Zf,gradeFrom],hpf⟩
 | succ j ih=>
  intro t fuel H ht h1 hf hpf
  obtain ⟨fuel,rfl⟩:=Zs fuel (by omega)
  obtain ⟨u,H1,a1,a2,a3⟩:=implStartMasks_ok (show 2000010 ≤ k by omega) (hz.pf hpf)
  rw [s1] at a3
  have ho:=nil_own a3 (ok_ne s2)
  obtain ⟨v,H2,b1,b2,b3⟩:=implNarrowAll_ok (show 2000070 ≤ k by omega) (hz.pf (hpf.trans a2)) (own_reads ho) ho.nn (by omega) q3 (t:Int)
  rw [allV_lev hp h1 (by omega)] at b3
  have hl:=lev_ok hp (show t ≤ 4 by omega)
  obtain ⟨r1,r2,r3⟩:=dm_of hl
  have hvl:=b3.reads.len
  obtain ⟨w,H3,c1,c2,c3⟩:=implMasksGrid_ok (show 2000010 ≤ k by omega) (n:=n) (by omega) b3.reads (by omega) r3
  obtain ⟨g1,g2⟩:=gridM_ok hl
  have h4:=implGridFilled_ok (show 2000001 ≤ k by omega) c3.reads (by omega) n
  rw [ip g1] at h4
  have p3:=(hpf.trans a2).trans (b2.trans c2)
  rw [gradeFrom]
  by_cases c:doneB n given (rs.map R.val) t=true
  ·rw [if_pos c]
   unfold doneB at c
   rw [decide_eq_true_eq] at c
   refine ⟨H3,?_,p3⟩
   simp (disch:=omega) only [impl_GradePuzzle.l0,dt,Zt,a1,b1,c1,h4,Zo,AV.isTup,AV.nth,AV.toI,AV.toS,Zl,Zm,Zc,Zd,if_true,decide_true,beq_self_eq_true,hvl,bt]
  ·rw [if_neg c]
   unfold doneB at c
   rw [decide_eq_true_eq] at c
   obtain ⟨H',d1,d2⟩:=ih (t + 1) fuel H3 (by omega) (by omega) (by omega) p3
   push_cast at d1
   refine ⟨H',?_,d2⟩
   simp (disch:=omega) only [impl_GradePuzzle.l0,dt,Zt,Zf,a1,b1,c1,h4,Zo,AV.isTup,AV.nth,AV.toI,AV.toS,Zl,Zm,Zc,Zd,if_true,decide_true,beq_self_eq_true,hvl,bf,wr (n:=(t:Int) + 1),d1]
theorem implGradePuzzle_ok {k:Nat} (hk:2000520 ≤ k) {H:Hp} {n:Int} {gs s:Sl} {given:List Int} {rs:List R} (hz:PuzAt H n gs s given rs) (hnil:gs.nil=false) :
  ∃ H',callF PP orc k impl_GradePuzzle.id [.agg [.int .i64 n,.sl 1 gs,.sl 3 s]] H=some (.int .i64 (gradeV n given (rs.map R.val)),H')∧H <+: H':=by
 obtain ⟨k,rfl⟩:=Zs k (by omega)
 rw [impl_GradePuzzle.call]
 have h1:=implPuzzleValid_ok (show 2000003 ≤ k by omega) hz.n4 hz.rg hz.gl hz.rr hz.rl hz.rc
 rw [puzzle_map] at h1
 obtain ⟨H1,a1,a2⟩:=onlyOne_ok (show 2000511 ≤ k by omega) hz hnil
 unfold gradeV
 unfold minimalOk at a1
 cases e1:puzzleV n given (rs.map R.val) with
 | false=>
  rw [e1] at h1
  rw [iN (by simp)]
  exact ⟨H,by simp only [impl_GradePuzzle.f,dt,df,bt,bf,nt,nf,Za,Zy,Zx,Zt,Zf,Zn,Zz,Zi,Zo,wr,AV.toB,AV.toI,AV.toS,if_true,h1],(List.prefix_refl _)⟩
 | true=>
  rw [e1] at h1 a1
  rw [ip rfl]
  rw [Bool.true_and] at a1
  cases e2:oneV n given (rs.map R.val) with
  | false=>
   rw [e2] at a1
   rw [iN (by simp)]
   exact ⟨H1,by simp only [impl_GradePuzzle.f,dt,df,bt,bf,nt,nf,Za,Zy,Zx,Zt,Zf,Zn,Zz,Zi,Zo,wr,AV.toB,AV.toI,AV.toS,if_true,h1,a1],a2⟩
  | true=>
   rw [e2] at a1
   rw [ip rfl]
   obtain ⟨H',b1,b2⟩:=iGrade_l0 (show 2000100 ≤ k by omega) hz e1 4 1 k H1 (by omega) (by omega) (by omega) a2
   refine ⟨H',?_,b2⟩
   simp only [Int.natCast_one] at b1
   simp only [impl_GradePuzzle.f,Zo,AV.toB,Zy,Zf,h1,a1,b1]
theorem sGrade_l0 {k:Nat} (hk:2000100 ≤ k) {H0:Hp} {n:Int} {gs s:Sl} {given:List Int} {rs:List R} (hz:PuzAt H0 n gs s given rs) (hp:puzzleV n given (rs.map R.val)=true) :
  ∀ (j t fuel:Nat) (H:Hp),t + j=5→1 ≤ t→j < fuel→H0 <+: H→∃ H',spec_GradePuzzle.l0 (callF PP orc k) k fuel (t:Int) n gs s H=some (.int .i64 (gradeFrom n given (rs.map R.val) j t),H')∧H0 <+: H':=by
 have hn:=hz.n4
 obtain ⟨s1,s2⟩:=start_ok hp
 obtain ⟨q1,q2,q3⟩:=dm_of s2
 intro j
 induction j with
 | zero=>
  intro t fuel H ht h1 hf hpf
  obtain ⟨fuel,rfl⟩:=Zs fuel (by omega)
  exact ⟨H,by simp (disch:=omega) only [spec_GradePuzzle.l0,df,Zf,gradeFrom],hpf⟩
 | succ j ih=>
  intro t fuel H ht h1 hf hpf
  obtain ⟨fuel,rfl⟩:=Zs fuel (by omega)
  obtain ⟨u,H1,a1,a2,a3⟩:=specStartMasks_ok (show 2000010 ≤ k by omega) (hz.pf hpf)
  rw [s1] at a3
  obtain ⟨v,H2,b1,b2,b3⟩:=specNarrowAll_ok (show 2000070 ≤ k by omega) (hz.pf (hpf.trans a2)) (own_reads a3) (by omega) (t:Int)
  rw [allV_lev hp h1 (by omega)] at b3
  have hl:=lev_ok hp (show t ≤ 4 by omega)
  obtain ⟨r1,r2,r3⟩:=dm_of hl
  have hvl:=(own_reads b3).len
  obtain ⟨w,H3,c1,c2,c3⟩:=specMasksGrid_ok (show 2000010 ≤ k by omega) (n:=n) (by omega) (own_reads b3) (by omega)
  obtain ⟨g1,g2⟩:=gridM_ok hl
  have h4:=specGridFilled_ok (show 2000001 ≤ k by omega) (own_reads c3) (by omega) n
  rw [ip g1] at h4
  have p3:=(hpf.trans a2).trans (b2.trans c2)
  rw [gradeFrom]
  by_cases c:doneB n given (rs.map R.val) t=true
  ·rw [if_pos c]
   unfold doneB at c
   rw [decide_eq_true_eq] at c
   refine ⟨H3,?_,p3⟩
   simp (disch:=omega) only [spec_GradePuzzle.l0,dt,Zt,a1,b1,c1,h4,Zo,AV.isTup,AV.nth,AV.toI,AV.toS,Zl,Zm,Zc,Zd,if_true,decide_true,beq_self_eq_true,hvl,bt]
  ·rw [if_neg c]
   unfold doneB at c
   rw [decide_eq_true_eq] at c
   obtain ⟨H',d1,d2⟩:=ih (t + 1) fuel H3 (by omega) (by omega) (by omega) p3
   push_cast at d1
   refine ⟨H',?_,d2⟩
   simp (disch:=omega) only [spec_GradePuzzle.l0,dt,Zt,Zf,a1,b1,c1,h4,Zo,AV.isTup,AV.nth,AV.toI,AV.toS,Zl,Zm,Zc,Zd,if_true,decide_true,beq_self_eq_true,hvl,bf,wr (n:=(t:Int) + 1),d1]
theorem specGradePuzzle_ok {k:Nat} (hk:2000520 ≤ k) {H:Hp} {n:Int} {gs s:Sl} {given:List Int} {rs:List R} (hz:PuzAt H n gs s given rs) :
  ∃ H',callF PP orc k spec_GradePuzzle.id [.agg [.int .i64 n,.sl 1 gs,.sl 3 s]] H=some (.int .i64 (gradeV n given (rs.map R.val)),H')∧H <+: H':=by
 obtain ⟨k,rfl⟩:=Zs k (by omega)
 rw [spec_GradePuzzle.call]
 have h1:=specPuzzleValid_ok (show 2000003 ≤ k by omega) hz.n4 hz.rg hz.gl hz.rr hz.rl hz.rc
 rw [puzzle_map] at h1
 obtain ⟨x,H1,a1,a2,a3⟩:=specl5All_ok (show 2000200 ≤ k by omega) hz (most:=2) (by omega) (by omega)
 have a1':callF PP orc k spec_l5All.id [.agg [.int .i64 n,.sl 1 gs,.sl 3 s],.int .i64 2] H=some (.sl 1 x,H1):=a1
 have hxl:=a3.len
 unfold gradeV
 cases e1:puzzleV n given (rs.map R.val) with
 | false=>
  rw [e1] at h1
  rw [iN (by simp)]
  exact ⟨H,by simp only [spec_GradePuzzle.f,dt,df,bt,bf,nt,nf,Za,Zy,Zx,Zt,Zf,Zn,Zz,Zi,Zo,wr,AV.toB,AV.toI,AV.toS,if_true,h1],(List.prefix_refl _)⟩
 | true=>
  rw [e1] at h1
  rw [ip rfl]
  by_cases c:((allSols n given (rs.map R.val)).take 2).length=1
  ·rw [ip (show oneV n given (rs.map R.val)=true by unfold oneV; exact decide_eq_true c)]
   have hx1:(x.len:Int)=1:=by omega
   obtain ⟨H',b1,b2⟩:=sGrade_l0 (show 2000100 ≤ k by omega) hz e1 4 1 k H1 (by omega) (by omega) (by omega) a2
   refine ⟨H',?_,b2⟩
   simp only [Int.natCast_one] at b1
   simp only [spec_GradePuzzle.f,Zo,AV.toB,AV.toS,if_true,Zy,Zf,h1,a1',nf hx1,b1]
  ·rw [iN (show ¬ oneV n given (rs.map R.val)=true by unfold oneV; rw [decide_eq_true_eq]; exact c)]
   have hx1:(x.len:Int) ≠ 1:=by omega
   exact ⟨H1,by simp only [spec_GradePuzzle.f,Zo,AV.toB,AV.toS,if_true,Zy,Zf,Zt,h1,a1',nt hx1],a2⟩
theorem sameInts_l0 (rec:Rec) (k:Nat) {H:Hp} {s t:Sl} {x y:List Int} (hs:Reads .i64 H s x) (ht:Reads .i64 H t y) (hl:x.length=y.length) (h1:x.length ≤ 1000) :
  ∀ (j i fuel:Nat),i + j=x.length→j < fuel→laws_sameInts.l0 rec k fuel s t i H=some (.bool (decide (x.drop i=y.drop i)),H):=by
 have hsl:=hs.len
 have htl:=ht.len
 intro j
 induction j with
 | zero=>
  intro i fuel hi hf
  obtain ⟨fuel,rfl⟩:=Zs fuel (by omega)
  rw [List.drop_eq_nil_of_le (show x.length ≤ i by omega),List.drop_eq_nil_of_le (show y.length ≤ i by omega)]
  simp (disch:=omega) only [laws_sameInts.l0,dt,df,bt,bf,nt,nf,Za,Zy,Zx,Zt,Zf,Zn,Zz,Zi,Zo,wr,AV.toB,AV.toI,AV.toS,if_true]
  rfl
 | succ j ih=>
  intro i fuel hi hf
  obtain ⟨fuel,rfl⟩:=Zs fuel (by omega)
  have hx:i < x.length:=by omega
  have hy:i < y.length:=by omega
  have ex:x.drop i=x.getD i 0 :: x.drop (i + 1):=by
   rw [List.drop_eq_getElem_cons hx,List.getD_eq_getElem?_getD,List.getElem?_eq_getElem hx]; rfl
  have ey:y.drop i=y.getD i 0 :: y.drop (i + 1):=by
   rw [List.drop_eq_getElem_cons hy,List.getD_eq_getElem?_getD,List.getElem?_eq_getElem hy]; rfl
  rw [ex,ey]
  by_cases c:x.getD i 0=y.getD i 0
  ·have d1:=ih (i + 1) fuel (by omega) (by omega)
   push_cast at d1
   rw [show decide (x.getD i 0 :: x.drop (i + 1)=y.getD i 0 :: y.drop (i + 1))=decide (x.drop (i + 1)=y.drop (i + 1)) by rw [c]; simp,← d1]
   simp (disch:=omega) only [laws_sameInts.l0,dt,df,bt,bf,nt,nf,Za,Zy,Zx,Zt,Zf,Zn,Zz,Zi,Zo,wr,AV.toB,AV.toI,AV.toS,if_true,rdn hs,rdn ht,nf]
  ·rw [show decide (x.getD i 0 :: x.drop (i + 1)=y.getD i 0 :: y.drop (i + 1))=false from decide_eq_false fun h=>c (List.cons.inj h).1]
   simp (disch:=omega) only [laws_sameInts.l0,dt,df,bt,bf,nt,nf,Za,Zy,Zx,Zt,Zf,Zn,Zz,Zi,Zo,wr,AV.toB,AV.toI,AV.toS,if_true,rdn hs,rdn ht,nt]
theorem sameInts_ok {k:Nat} (hk:2000000 ≤ k) {H:Hp} {s t:Sl} {x y:List Int} (hs:Reads .i64 H s x) (ht:Reads .i64 H t y) (h1:x.length ≤ 1000) (h2:y.length ≤ 1000) :
  callF PP orc k laws_sameInts.id [.sl 1 s,.sl 1 t] H=some (.bool (decide (x=y)),H):=by
 obtain ⟨k,rfl⟩:=Zs k (by omega)
 rw [laws_sameInts.call]
 have hsl:=hs.len
 have htl:=ht.len
 by_cases c:x.length=y.length
 ·have d1:=sameInts_l0 (callF PP orc k) k hs ht c h1 x.length 0 k (by omega) (by omega)
  simp only [Int.natCast_zero,List.drop_zero] at d1
  rw [← d1]
  simp (disch:=omega) only [laws_sameInts.f,dt,df,bt,bf,nt,nf,Za,Zy,Zx,Zt,Zf,Zn,Zz,Zi,Zo,wr,AV.toB,AV.toI,AV.toS,if_true]
 ·rw [decide_eq_false (fun h=>c (congrArg List.length h))]
  simp (disch:=omega) only [laws_sameInts.f,dt,df,bt,bf,nt,nf,Za,Zy,Zx,Zt,Zf,Zn,Zz,Zi,Zo,wr,AV.toB,AV.toI,AV.toS,if_true]
theorem count_one {n:Int} {given:List Int} {vs:List V} (hp:puzzleV n given vs=true):(countV n given vs 2=1 ↔ oneV n given vs=true):=by
 unfold countV oneV
 rw [if_pos ⟨hp,by omega,by omega⟩,decide_eq_true_eq]
 have:(2:Int).toNat=2:=rfl
 rw [this]; omega
theorem Grade_l0 {k:Nat} (hk:2000520 ≤ k) {H0:Hp} {n:Int} {gs ss xs:Sl} {given x:List Int} {rs:List R} (hz:PuzAt H0 n gs ss given rs) (hgn:gs.nil=false) (hp:puzzleV n given (rs.map R.val)=true) (ho:oneV n given (rs.map R.val)=true) (hx:x ∈ allSols n given (rs.map R.val)) (hxs:Reads .i64 H0 xs x) :
  ∀ (j t fuel:Nat) (H:Hp),t + j=5→1 ≤ t→j < fuel→H0 <+: H→∃ H',laws_FnGradePuzzle.l0 (callF PP orc k) k fuel (gradeFrom n given (rs.map R.val) 4 1) xs (t:Int) n gs ss H=some (.bool true,H'):=by
 have hn:=hz.n4
 obtain ⟨s1,s2⟩:=start_ok hp
 obtain ⟨q1,q2,q3⟩:=dm_of s2
 obtain ⟨g1,g2⟩:=gradeFrom_rg (n:=n) (given:=given) (vs:=rs.map R.val) 4 1 (by omega)
 have hx16:=gridOk_len (solG hp hx).1
 intro j
 induction j with
 | zero=>
  intro t fuel H ht h1 hf hpf
  obtain ⟨fuel,rfl⟩:=Zs fuel (by omega)
  obtain ⟨H',a1,a2⟩:=implCount_ok (show 2000510 ≤ k by omega) (hz.pf hpf) hgn 2
  rw [(count_one hp).2 ho] at a1
  refine ⟨H',?_⟩
  simp (disch:=omega) only [laws_FnGradePuzzle.l0,laws_FnGradePuzzle.j1,df,dt,Zf,Zt,a1,Zo,AV.toI,if_true,beq_self_eq_true]
 | succ j ih=>
  intro t fuel H ht h1 hf hpf
  obtain ⟨fuel,rfl⟩:=Zs fuel (by omega)
  obtain ⟨u,H1,a1,a2,a3⟩:=implStartMasks_ok (show 2000010 ≤ k by omega) (hz.pf hpf)
  rw [s1] at a3
  have hou:=nil_own a3 (ok_ne s2)
  obtain ⟨v,H2,b1,b2,b3⟩:=implNarrowAll_ok (show 2000070 ≤ k by omega) (hz.pf (hpf.trans a2)) (own_reads hou) hou.nn (by omega) q3 (t:Int)
  rw [allV_lev hp h1 (by omega)] at b3
  have hl:=lev_ok hp (show t ≤ 4 by omega)
  obtain ⟨r1,r2,r3⟩:=dm_of hl
  obtain ⟨w,H3,c1,c2,c3⟩:=implMasksGrid_ok (show 2000010 ≤ k by omega) (n:=n) (by omega) b3.reads (by omega) r3
  have p3:=(hpf.trans a2).trans (b2.trans c2)
  have hgl:=(gridM_ok hl).2
  have sm:=sameInts_ok (show 2000000 ≤ k by omega) c3.reads (pf_reads p3 hxs) (by omega) (by omega)
  have e:decide (gridM n (levV n given (rs.map R.val) t)=x)=decide (gradeFrom n given (rs.map R.val) 4 1 ≤ (t:Int)):=decide_eq_decide.2 ((done_iff hp (by omega) hx).symm.trans (grade_le hp hx 4 1 t (by omega) h1 (by omega)).symm)
  rw [e] at sm
  obtain ⟨H',d1⟩:=ih (t + 1) fuel H3 (by omega) (by omega) (by omega) p3
  push_cast at d1
  refine ⟨H',?_⟩
  simp only [laws_FnGradePuzzle.l0]
  rw [dt (show (t:Int) ≤ 4 by omega),cond_true,a1,Option.bind_some]
  simp only [AV.isTup,AV.nth,AV.isAgg,AV.cel,AV.toI,AV.toS,AV.toB,Zl,Zm,Zc,Zd,if_true,decide_true,beq_self_eq_true,Zt,Zf,Zy,Zx,Zo]
  rw [b1,Option.bind_some]
  simp only [AV.isTup,AV.nth,AV.isAgg,AV.cel,AV.toI,AV.toS,AV.toB,Zl,Zm,Zc,Zd,if_true,decide_true,beq_self_eq_true,Zt,Zf,Zy,Zx,Zo]
  rw [c1,Option.bind_some]
  simp only [AV.isTup,AV.nth,AV.isAgg,AV.cel,AV.toI,AV.toS,AV.toB,Zl,Zm,Zc,Zd,if_true,decide_true,beq_self_eq_true,Zt,Zf,Zy,Zx,Zo]
  rw [sm,Option.bind_some]
  simp only [AV.isTup,AV.nth,AV.isAgg,AV.cel,AV.toI,AV.toS,AV.toB,Zl,Zm,Zc,Zd,if_true,decide_true,beq_self_eq_true,Zt,Zf,Zy,Zx,Zo]
  rw [wr (n:=(t:Int) + 1) (by omega) (by omega)]
  exact d1
theorem GradePuzzle_law {k:Nat} (hk:2000800 ≤ k) {H:Hp} {s:Sl} {l:List Int} (hs:Reads .u8 H s l) (hb:∀ x ∈ l,0 ≤ x∧x ≤ 255) :
  ∃ H',callF PP orc k laws_FnGradePuzzle.id [.sl 1 s] H=some (.bool true,H'):=by
 obtain ⟨k,rfl⟩:=Zs k (by omega)
 rw [laws_FnGradePuzzle.call]
 by_cases hbig:(s.len:Int) > 1048576
 ·exact ⟨H,by simp only [laws_FnGradePuzzle.f,dt hbig,Zt]⟩
 ·obtain ⟨n,gs,ss,given,rs,H1,a1,a2,a3⟩:=DrawGradePuzzle_ok (show 2000501 ≤ k by omega) hs hb
  have hz:=a3.at'
  obtain ⟨H2,b1,b2⟩:=implGradePuzzle_ok (show 2000520 ≤ k by omega) hz a3.gn
  obtain ⟨H3,c1,c2⟩:=specGradePuzzle_ok (show 2000520 ≤ k by omega) (hz.pf b2)
  have hz3:=hz.pf (b2.trans c2)
  have hv:=specPuzzleValid_ok (show 2000003 ≤ k by omega) hz3.n4 hz3.rg hz3.gl hz3.rr hz3.rl hz3.rc
  rw [puzzle_map] at hv
  unfold laws_FnGradePuzzle.f
  rw [df hbig,cond_false,a1,Option.bind_some]
  simp only [AV.isTup,AV.nth,AV.isAgg,AV.cel,AV.toI,AV.toS,AV.toB,Zl,Zm,Zc,Zd,if_true,decide_true,beq_self_eq_true,Zt,Zf,Zy,Zx,Zo]
  rw [b1,Option.bind_some]
  simp only [AV.isTup,AV.nth,AV.isAgg,AV.cel,AV.toI,AV.toS,AV.toB,Zl,Zm,Zc,Zd,if_true,decide_true,beq_self_eq_true,Zt,Zf,Zy,Zx,Zo]
  rw [c1,Option.bind_some]
  simp only [AV.isTup,AV.nth,AV.isAgg,AV.cel,AV.toI,AV.toS,AV.toB,Zl,Zm,Zc,Zd,if_true,decide_true,beq_self_eq_true,Zt,Zf,Zy,Zx,Zo]
  rw [nf rfl,cond_false,hv,Option.bind_some]
  unfold gradeV
  cases e1:puzzleV n given (rs.map R.val) with
  | false=>
   obtain ⟨H4,d1,d2⟩:=alive_ok (show 2000002 ≤ k by omega) H3
   refine ⟨H4,?_⟩
   simp only [AV.isTup,AV.nth,AV.isAgg,AV.cel,AV.toI,AV.toS,AV.toB,Zl,Zm,Zc,Zd,if_true,decide_true,beq_self_eq_true,Zt,Zf,Zy,Zx,Zo]
   rw [iN (show ¬ false=true by simp),bt rfl,cond_true,d1,Option.bind_some]
   simp only [AV.isTup,AV.nth,AV.isAgg,AV.cel,AV.toI,AV.toS,AV.toB,Zl,Zm,Zc,Zd,if_true,decide_true,beq_self_eq_true,Zt,Zf,Zy,Zx,Zo]
  | true=>
   simp only [AV.isTup,AV.nth,AV.isAgg,AV.cel,AV.toI,AV.toS,AV.toB,Zl,Zm,Zc,Zd,if_true,decide_true,beq_self_eq_true,Zt,Zf,Zy,Zx,Zo]
   cases e2:oneV n given (rs.map R.val) with
   | false=>
    obtain ⟨H4,d1,d2⟩:=implCount_ok (show 2000510 ≤ k by omega) hz3 a3.gn 2
    refine ⟨H4,?_⟩
    rw [iN (show ¬ false=true by simp),bt rfl,cond_true,d1,Option.bind_some]
    simp only [AV.isTup,AV.nth,AV.isAgg,AV.cel,AV.toI,AV.toS,AV.toB,Zl,Zm,Zc,Zd,if_true,decide_true,beq_self_eq_true,Zt,Zf,Zy,Zx,Zo]
    rw [nt (fun h=>by rw [(count_one e1).1 h] at e2; cases e2)]
   | true=>
    obtain ⟨x,hx1,hx2⟩:=one_first e2
    obtain ⟨g1,g2⟩:=gradeFrom_rg (n:=n) (given:=given) (vs:=rs.map R.val) 4 1 (by omega)
    obtain ⟨u,H4,d1,d2⟩:=implSolveFirst_ok (show 2000510 ≤ k by omega) hz3 a3.gn
    rcases d2 with ⟨f1,d2,d3⟩ | ⟨y,f1,d2,d3⟩
    ·rw [hx1] at f1; cases f1
    ·have exy:x=y:=by rw [hx1] at f1; exact Option.some.inj f1
     subst exy
     obtain ⟨H',h1⟩:=Grade_l0 (show 2000520 ≤ k by omega) (hz3.pf d1) a3.gn e1 e2 hx2 d3 4 1 k H4 (by omega) (by omega) (by omega) (List.prefix_refl _)
     refine ⟨H',?_⟩
     simp only [Int.natCast_one] at h1
     rw [ip rfl,bf (show gradeFrom n given (rs.map R.val) 4 1 ≠ 0 by omega),cond_false,d2,Option.bind_some]
     simp only [AV.isTup,AV.nth,AV.isAgg,AV.cel,AV.toI,AV.toS,AV.toB,Zl,Zm,Zc,Zd,if_true,decide_true,beq_self_eq_true,Zt,Zf,Zy,Zx,Zo]
     exact h1
end Go.Proofs.Ytchliocobgkmbaa.Rp
