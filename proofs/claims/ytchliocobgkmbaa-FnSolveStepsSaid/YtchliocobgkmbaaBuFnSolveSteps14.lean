/- Texts for the row of the law FnSolveSteps, part 14: the plain machine, the program's functions on it, what they come to. No conditions. -/
import Derived.Test.YtchliocobgkmbaaBuFnSolveSteps13
import Derived.Test.YtchliocobgkmbaaBuFnSolveSteps4
set_option linter.unusedVariables false
set_option linter.unusedSimpArgs false
namespace Go.Proofs.Ytchliocobgkmbaa.Rp
open Go Go.RowKit Go.Proofs.Ytchliocobgkmbaa.Ab
theorem n7 {n:Int} (hb:-1 ≤ n∧n ≤ 5):0 ≤ n * n∧n * n ≤ 25:=by
 have:n=-1 ∨ n=0 ∨ n=1 ∨ n=2 ∨ n=3 ∨ n=4 ∨ n=5:=by omega
 rcases this with rfl | rfl | rfl | rfl | rfl | rfl | rfl <;> decide
theorem cellsOk_at {n:Int} {cells:List Int}:∀ (j i:Nat),cellsOk n cells i j=true→∀ m,i ≤ m→m < i + j→(0 ≤ cells.getD m 0∧cells.getD m 0 ≤ n * n - 1)∧(cells.take m).contains (cells.getD m 0)=false
 | 0,i,_,m,h1,h2=>by omega
 | j + 1,i,h,m,h1,h2=>by
  rw [cellsOk] at h
  simp only [Bool.and_eq_true,decide_eq_true_eq,Bool.not_eq_true'] at h
  by_cases e:m=i
  ·subst e; exact ⟨h.1,h.2.1⟩
  ·exact cellsOk_at j (i + 1) h.2.2 m (by omega) (by omega)
theorem ruleOk_cells {n kind value:Int} {cells:List Int} (h:ruleOk n kind cells value=true):(∀ c ∈ cells,0 ≤ c∧c < n * n)∧cells.length ≤ 4∧1 ≤ cells.length∧((kind=1 ∨ kind=2 ∨ kind=3) ∨ 2 ≤ cells.length):=by
 unfold ruleOk at h
 rw [Bool.and_eq_true] at h
 refine ⟨fun c hc=>?_,?_⟩
 ·obtain ⟨m,hm,rfl⟩:=List.getElem_of_mem hc
  have:=(cellsOk_at cells.length 0 h.1 m (by omega) (by omega)).1
  simp [List.getD_eq_getElem?_getD,hm] at this
  omega
 ·have:=h.2
  unfold kindOk at this
  split at this
  ·simp only [decide_eq_true_eq] at this; omega
  ·split at this
   ·simp only [decide_eq_true_eq] at this; omega
   ·split at this
    ·simp only [decide_eq_true_eq] at this; omega
    ·split at this
     ·simp only [decide_eq_true_eq] at this; omega
     ·cases this
theorem masksOk_iff {n:Int} {l:List Int}:masksOk n l=true ↔ (2 ≤ n∧n ≤ 4)∧(∀ m ∈ l,maskOk n m=true)∧(l.length:Int)=n * n:=by
 unfold masksOk
 simp
theorem topMask_le (n:Int):6 ≤ topMask n∧topMask n ≤ 30:=by unfold topMask; split; omega; split <;> omega
theorem maskOk_M {n m:Int} (h:maskOk n m=true):M m:=by
 unfold maskOk at h
 simp only [Bool.and_eq_true,decide_eq_true_eq] at h
 have:=topMask_le n
 exact ⟨h.1.1,by omega⟩
theorem topMask_pw {n:Int} (hn:2 ≤ n∧n ≤ 4):pw (n + 1) - 2=topMask n∧8 ≤ pw (n + 1)∧pw (n + 1) ≤ 32:=by
 have:n=2 ∨ n=3 ∨ n=4:=by omega
 rcases this with rfl | rfl | rfl <;> decide
/-! ### Sizes that are none -/
theorem specRule_l0_bad {k:Nat} (hk:2000001 ≤ k) {n kind value:Int} {cs:Sl} {H:Hp} {cells:List Int} (hb:-1 ≤ n∧n ≤ 5) (hn:¬ (2 ≤ n∧n ≤ 4)) (hs:Reads .i64 H cs cells) (hl:cells.length ≤ 1000) :
  ∀ (j i fuel:Nat),i + j=cells.length→j < fuel→spec_RuleValid.l0 (callF PP orc k) k fuel n i kind cs value H=some (.bool false,H):=by
 have h7:=n7 hb
 have hlen:=hs.len
 intro j
 induction j with
 | zero=>
  intro i fuel hi hf
  obtain ⟨fuel,rfl⟩:=Zs fuel (by omega)
  simp (disch:=omega) only [spec_RuleValid.l0,spec_RuleValid.j2,spec_RuleValid.j4,dt,df,bt,bf,nt,nf,Za,Zy,Zx,Zt,Zf,Zn,Zz,Zi,Zo,wr,AV.toB,AV.toI,AV.toS,if_true,l1In_ok (show 1 ≤ k by omega)]
 | succ j ih=>
  intro i fuel hi hf
  obtain ⟨fuel,rfl⟩:=Zs fuel (by omega)
  have h2:i < cells.length:=by omega
  have h5:=ih (i + 1) fuel (by omega) (by omega)
  push_cast at h5
  have h6:=specRule_l1 (callF PP orc k) k (spec_RuleValid.l0 (callF PP orc k) k fuel) (n:=n) (kind:=kind) (value:=value) hs hl h2 i 0 k (by omega) (by omega)
  simp only [List.drop_zero,Int.natCast_zero,h5] at h6
  have h6':spec_RuleValid.l1 (callF PP orc k) k (spec_RuleValid.l0 (callF PP orc k) k fuel) k n i 0 kind cs value H=some (.bool false,H):=by rw [h6]; cases (cells.take i).contains cells[i] <;> rfl
  by_cases c1:0 ≤ cells.getD i 0∧cells.getD i 0 ≤ n * n - 1
  ·simp (disch:=omega) only [spec_RuleValid.l0,dt,df,bt,bf,nt,nf,Za,Zy,Zx,Zt,Zf,Zn,Zz,Zi,Zo,wr,AV.toB,AV.toI,AV.toS,if_true,rdn hs,l1In_ok (show 1 ≤ k by omega),dt c1,h6']
  ·simp (disch:=omega) only [spec_RuleValid.l0,dt,df,bt,bf,nt,nf,Za,Zy,Zx,Zt,Zf,Zn,Zz,Zi,Zo,wr,AV.toB,AV.toI,AV.toS,if_true,rdn hs,l1In_ok (show 1 ≤ k by omega),df c1]
theorem specRuleValid_any {k:Nat} (hk:2000002 ≤ k) {n kind value:Int} {cs:Sl} {H:Hp} {cells:List Int} (hb:-1 ≤ n∧n ≤ 5) (hs:Reads .i64 H cs cells) (hl:cells.length ≤ 1000) :
  callF PP orc k spec_RuleValid.id [.agg [.int .i64 kind,.sl 1 cs,.int .i64 value],.int .i64 n] H=some (.bool (decide (2 ≤ n∧n ≤ 4) && ruleOk n kind cells value),H):=by
 by_cases hn:2 ≤ n∧n ≤ 4
 ·rw [specRuleValid_ok hk hn hs hl,dt hn,Bool.true_and]
 ·obtain ⟨k,rfl⟩:=Zs k (by omega)
  rw [spec_RuleValid.call,df hn,Bool.false_and]
  exact specRule_l0_bad (show 2000001 ≤ k by omega) hb hn hs hl cells.length 0 k (by omega) (by omega)
theorem masks_and:∀ n:Int,-1 ≤ n∧n ≤ 5→0 ≤ IntKind.i64.wrap ((BitVec.ofInt IntKind.i64.bits n &&& BitVec.ofInt IntKind.i64.bits 7).toNat:Int)∧IntKind.i64.wrap ((BitVec.ofInt IntKind.i64.bits n &&& BitVec.ofInt IntKind.i64.bits 7).toNat:Int) ≤ 7:=by
 intro n hb
 have:n=-1 ∨ n=0 ∨ n=1 ∨ n=2 ∨ n=3 ∨ n=4 ∨ n=5:=by omega
 rcases this with rfl | rfl | rfl | rfl | rfl | rfl | rfl <;> exact ⟨by decide +kernel,by decide +kernel⟩
theorem MasksValid_l0_bad {k:Nat} (hk:1 ≤ k) {n:Int} (hb:-1 ≤ n∧n ≤ 5) (hn:¬ (2 ≤ n∧n ≤ 4)) {H:Hp} {s:Sl} {l:List Int} (hs:Reads .i64 H s l) (hl:l.length ≤ 1000) :
  ∀ (j i fuel:Nat),i + j=l.length→j < fuel→spec_MasksValid.l0 (callF PP orc k) k fuel s n i H=some (.bool false,H):=by
 have h7:=n7 hb
 have hlen:=hs.len
 have ha:=masks_and n hb
 generalize hA:IntKind.i64.wrap ((BitVec.ofInt IntKind.i64.bits n &&& BitVec.ofInt IntKind.i64.bits 7).toNat:Int)=A at ha
 intro j
 induction j with
 | zero=>
  intro i fuel hi hf
  obtain ⟨fuel,rfl⟩:=Zs fuel (by omega)
  simp (disch:=omega) only [spec_MasksValid.l0,spec_MasksValid.j2,dt,df,bt,bf,nt,nf,Za,Zy,Zx,Zt,Zf,Zn,Zz,Zi,Zo,wr,AV.toB,AV.toI,AV.toS,if_true,l1In_ok hk]
 | succ j ih=>
  intro i fuel hi hf
  obtain ⟨fuel,rfl⟩:=Zs fuel (by omega)
  have h5:=ih (i + 1) fuel (by omega) (by omega)
  push_cast at h5
  generalize hT:IntKind.i64.wrap (IntKind.i64.wrap (1 * 2 ^ (min (A + 1).toNat IntKind.i64.bits)) - 2)=T
  by_cases c1:0 ≤ l.getD i 0∧l.getD i 0 ≤ T
  ·cases c2:((l.getD i 0).tmod 2 != 0) with
   | true=>simp (disch:=omega) only [spec_MasksValid.l0,spec_MasksValid.j1,spec_MasksValid.j3,dt,Za,Zy,Zt,Zf,Zn,rdn hs,Zo,hA,wr (n:=A + 1),iN,hT,l1In_ok hk,AV.toB,c1,and_self,decide_true,c2]
   | false=>simp (disch:=omega) only [spec_MasksValid.l0,spec_MasksValid.j1,spec_MasksValid.j3,dt,Za,Zy,Zt,Zf,Zn,rdn hs,Zo,hA,wr (n:=A + 1),wr (n:=(i:Int) + 1),iN,hT,l1In_ok hk,AV.toB,c1,and_self,decide_true,c2,h5]
  ·simp (disch:=omega) only [spec_MasksValid.l0,spec_MasksValid.j1,spec_MasksValid.j3,dt,Za,Zx,Zt,Zf,Zn,rdn hs,Zo,hA,wr (n:=A + 1),iN,hT,l1In_ok hk,AV.toB,c1,decide_false]
theorem specMasksValid_any {k:Nat} (hk:2000000 ≤ k) {n:Int} (hb:-1 ≤ n∧n ≤ 5) {H:Hp} {s:Sl} {l:List Int} (hs:Reads .i64 H s l) (hl:l.length ≤ 1000) :
  callF PP orc k spec_MasksValid.id [.sl 1 s,.int .i64 n] H=some (.bool (masksOk n l),H):=by
 unfold masksOk
 by_cases hn:2 ≤ n∧n ≤ 4
 ·rw [MasksValid_ok hk hn hs hl,dt hn,Bool.true_and]
 ·obtain ⟨k,rfl⟩:=Zs k (by omega)
  rw [spec_MasksValid.call,df hn,Bool.false_and]
  exact MasksValid_l0_bad (show 1 ≤ k by omega) hb hn hs hl l.length 0 k (by omega) (by omega)
/-! ### spec.RuleMasks -/
def ruleMasksS (n kind value:Int) (cells masks:List Int):List Int:=if (decide (2 ≤ n∧n ≤ 4) && ruleOk n kind cells value)=true∧masksOk n masks=true then ruleMasksV kind value (ownOf masks cells) else []
theorem flat0s (N:Nat):(List.replicate N [AV.int .i64 0]).flatten=(List.replicate N (0:Int)).map (.int .i64):=by
 induction N with
 | zero=>rfl
 | succ N ih=>simp [List.replicate_succ,ih]
theorem Ms.zeros (N:Nat):Ms (List.replicate N 0):=fun m hm=>by have:=(List.mem_replicate.1 hm).2; subst this; exact ⟨by decide,by decide⟩
theorem specRuleMasks_ok {k:Nat} (hk:2000030 ≤ k) {n kind value:Int} (hb:-1 ≤ n∧n ≤ 5) {cs ms:Sl} {H:Hp} {cells masks:List Int} (hc:Reads .i64 H cs cells) (hm:Reads .i64 H ms masks) (hcl:cells.length ≤ 1000) (hml:masks.length ≤ 1000) :
  ∃ t H',callF PP orc k spec_RuleMasks.id [.agg [.int .i64 kind,.sl 1 cs,.int .i64 value],.sl 1 ms,.int .i64 n] H=some (.sl 1 t,H')∧H <+: H'∧Own 1 H H' t ((ruleMasksS n kind value cells masks).map (.int .i64)):=by
 obtain ⟨k,rfl⟩:=Zs k (by omega)
 rw [spec_RuleMasks.call]
 have h1:=specRuleValid_any (show 2000002 ≤ k by omega) (kind:=kind) (value:=value) hb hc hcl
 have h2:=specMasksValid_any (show 2000000 ≤ k by omega) hb hm hml
 unfold ruleMasksS
 cases e1:(decide (2 ≤ n∧n ≤ 4) && ruleOk n kind cells value) with
 | false=>
  rw [e1] at h1
  refine ⟨Sl.mk false H.length 0 0,H ++ [some (Blk.mk false [])],by simp only [spec_RuleMasks.f,spec_RuleMasks.j0,dt,df,bt,bf,nt,nf,Za,Zy,Zx,Zt,Zf,Zn,Zz,Zi,Zo,wr,AV.toB,AV.toI,AV.toS,if_true,h1],(List.prefix_append _ _),?_⟩
  rw [iN (by simp)]; exact own_new 1 H [] 0 rfl
 | true=>
  rw [e1] at h1
  cases e2:masksOk n masks with
  | false=>
   rw [e2] at h2
   refine ⟨Sl.mk false H.length 0 0,H ++ [some (Blk.mk false [])],by simp only [spec_RuleMasks.f,spec_RuleMasks.j0,dt,df,bt,bf,nt,nf,Za,Zy,Zx,Zt,Zf,Zn,Zz,Zi,Zo,wr,AV.toB,AV.toI,AV.toS,if_true,h1,h2],(List.prefix_append _ _),?_⟩
   rw [iN (by simp)]; exact own_new 1 H [] 0 rfl
  | true=>
   rw [e2] at h2
   rw [ip ⟨rfl,rfl⟩]
   rw [Bool.and_eq_true,decide_eq_true_eq] at e1
   obtain ⟨c1,c2,c3,c4⟩:=ruleOk_cells e1.2
   obtain ⟨_,m1,m2⟩:=masksOk_iff.1 e2
   have hcs:=hc.len
   have ra:RuleAt H cs ms kind cells masks:=⟨hc,hm,c2,fun c h=>by have:=c1 c h; omega,hml,c4⟩
   have hnew:=own_new 1 H ((List.replicate cells.length (0:Int)).map (.int .i64)) cells.length (by simp)
   have hnew2:=own_new 1 (H ++ [some (Blk.mk false ((List.replicate cells.length (0:Int)).map (.int .i64)))]) (([]:List Int).map (.int .i64)) 0 rfl
   obtain ⟨H',a1,a2,a3,a4⟩:=l4Ways_ok ra (value:=value) (fs:=Sl.mk false H.length 0 cells.length) cells.length k (by omega) (H ++ [some (Blk.mk false ((List.replicate cells.length (0:Int)).map (.int .i64)))] ++ [some (Blk.mk false [])]) (Sl.mk false (H ++ [some (Blk.mk false ((List.replicate cells.length (0:Int)).map (.int .i64)))]).length 0 0) [] (List.replicate cells.length 0)
    (by simp) ((List.prefix_append _ _).trans (List.prefix_append _ _)) (own_reads hnew2) (by simp) ⟨by simp,fun v hv=>by cases hv⟩ (by simp) (Ms.zeros _) (own_pf hnew (List.prefix_append _ _))
   refine ⟨Sl.mk false H.length 0 cells.length,H',?_,a2,?_⟩
   ·simp only [spec_RuleMasks.f,spec_RuleMasks.j0,spec_RuleMasks.j1,dt,df,bt,bf,nt,nf,Za,Zy,Zx,Zt,Zf,Zn,Zz,Zi,Zo,wr,AV.toB,AV.toI,AV.toS,if_true,h1,h2,hcs,flat0s]
    rw [ip (by omega),a1]
    rfl
   ·unfold ruleMasksV
    simpa [ownOf] using a4
/-! ### spec.RulePossible -/
theorem openOf_ok {n:Int} {g:List Int} (hg:gridOk g n=true):masksOk n (openOf n g)=true:=by
 obtain ⟨hn,h2,h3⟩:=(gridOk_iff g n).1 hg
 refine masksOk_iff.2 ⟨hn,fun m hm=>?_,by unfold openOf; rw [List.length_map]; exact h2⟩
 obtain ⟨v,hv,rfl⟩:=List.mem_map.1 hm
 have hv':=h3 v hv
 have:n=2 ∨ n=3 ∨ n=4:=by omega
 split
 ·have hv4:v=1 ∨ v=2 ∨ v=3 ∨ v=4:=by omega
  rcases this with rfl | rfl | rfl <;> rcases hv4 with rfl | rfl | rfl | rfl <;> first | omega | decide
 ·rcases this with rfl | rfl | rfl <;> decide
theorem RulePossible_l2 (rec:Rec) (k:Nat) (J4:Sl→Hp→An) {n kind value:Int} (hn:2 ≤ n∧n ≤ 4) {cs xs:Sl} {H0:Hp} {g:List Int} (hg:gridOk g n=true) (hs:Reads .i64 H0 xs g)
  (hJ:∀ t H,spec_RulePossible.j4 rec k n t kind cs value H=J4 t H) :
  ∀ (j i fuel:Nat) (H:Hp) (t:Sl),i + j=g.length→j < fuel→H0 <+: H→Own 1 H0 H t ((openOf n (g.take i)).map (.int .i64)) →
   ∃ t' H',spec_RulePossible.l2 rec k fuel xs n t i kind cs value H=J4 t' H'∧H0 <+: H'∧Own 1 H0 H' t' ((openOf n g).map (.int .i64)):=by
 have hlen:=hs.len
 obtain ⟨_,h2,h3⟩:=(gridOk_iff g n).1 hg
 have hgl:=gridOk_len hg
 obtain ⟨p1,p2,p3⟩:=topMask_pw hn
 intro j
 induction j with
 | zero=>
  intro i fuel H t hi hf hp ho
  obtain ⟨fuel,rfl⟩:=Zs fuel (by omega)
  refine ⟨t,H,?_,hp,by rw [List.take_of_length_le (by omega)] at ho; exact ho⟩
  simp (disch:=omega) only [spec_RulePossible.l2,dt,df,bt,bf,nt,nf,Za,Zy,Zx,Zt,Zf,Zn,Zz,Zi,Zo,wr,AV.toB,AV.toI,AV.toS,if_true,hJ]
 | succ j ih=>
  intro i fuel H t hi hf hp ho
  obtain ⟨fuel,rfl⟩:=Zs fuel (by omega)
  have hi2:i < g.length:=by omega
  obtain ⟨v0,v1⟩:=h3 _ (mem_getD hi2)
  have htl:t.len=i:=by have:=ho.len; simp [openOf] at this; omega
  have htk:openOf n (g.take (i + 1))=openOf n (g.take i) ++ [if g.getD i 0 > 0 then pw (g.getD i 0) else topMask n]:=by
   rw [List.take_succ_eq_append_getElem hi2]; unfold openOf
   rw [List.map_append,List.getD_eq_getElem?_getD,List.getElem?_eq_getElem hi2]; rfl
  obtain ⟨H1,a1,a2,a3,a4,a5⟩:=own_app1 ho hp (if g.getD i 0 > 0 then pw (g.getD i 0) else topMask n) (by omega)
  rw [← htk] at a3
  obtain ⟨t',H',b1,b2,b3⟩:=ih (i + 1) fuel H1 _ (by omega) (by omega) a2 a3
  push_cast at b1
  refine ⟨t',H',?_,b2,b3⟩
  by_cases c:g.getD i 0 > 0
  ·rw [ip c] at a1
   simp (disch:=omega) only [spec_RulePossible.l2,spec_RulePossible.j3,spec_RulePossible.j5,dt,df,bt,bf,nt,nf,Za,Zy,Zx,Zt,Zf,Zn,Zz,Zi,Zo,wr,AV.toB,AV.toI,AV.toS,if_true,rdn (pf_reads hp hs),iN,m_shl v0,a1,b1]
  ·rw [iN c] at a1
   simp (disch:=omega) only [spec_RulePossible.l2,spec_RulePossible.j3,spec_RulePossible.j5,dt,df,bt,bf,nt,nf,Za,Zy,Zx,Zt,Zf,Zn,Zz,Zi,Zo,wr,AV.toB,AV.toI,AV.toS,if_true,rdn (pf_reads hp hs),iN,m_shl (v:=n + 1),p1,a1,b1]
theorem specRulePossible_ok {k:Nat} (hk:2000040 ≤ k) {n kind value:Int} {cs xs:Sl} {H:Hp} {cells g:List Int} (hc:Reads .i64 H cs cells) (hx:Reads .i64 H xs g) (hr:ruleOk n kind cells value=true) (hg:gridOk g n=true) :
  ∃ H',callF PP orc k spec_RulePossible.id [.agg [.int .i64 kind,.sl 1 cs,.int .i64 value],.sl 1 xs,.int .i64 n] H=some (.bool (canHoldV n g (kind,cells,value)),H')∧H <+: H':=by
 obtain ⟨k,rfl⟩:=Zs k (by omega)
 rw [spec_RulePossible.call]
 obtain ⟨hn,g2,g3⟩:=(gridOk_iff g n).1 hg
 have hgl:=gridOk_len hg
 obtain ⟨c1,c2,c3,c4⟩:=ruleOk_cells hr
 have h1:=specRuleValid_any (show 2000002 ≤ k by omega) (kind:=kind) (value:=value) (n:=n) ⟨by omega,by omega⟩ hc (by omega)
 have h2:=specGridValid_ok (show 2000000 ≤ k by omega) hx (by omega) n
 rw [hr,dt hn] at h1
 rw [hg] at h2
 obtain ⟨t,H1,a1,a2,a3⟩:=RulePossible_l2 (callF PP orc k) k (fun t H=>spec_RulePossible.j4 (callF PP orc k) k n t kind cs value H) hn hg hx (fun _ _=>rfl) g.length 0 k (H ++ [some (Blk.mk false [])]) (Sl.mk false H.length 0 0) (by omega) (by omega) (List.prefix_append _ _) (own_new 1 H [] 0 rfl)
 obtain ⟨u,H2,b1,b2,b3⟩:=specRuleMasks_ok (show 2000030 ≤ k by omega) (n:=n) (kind:=kind) (value:=value) ⟨by omega,by omega⟩ (pf_reads a2 hc) (own_reads a3) (by omega) (by simp [openOf]; omega)
 have e:ruleMasksS n kind value cells (openOf n g)=ruleMasksV kind value (ownOf (openOf n g) cells):=by
  unfold ruleMasksS; rw [ip ⟨by rw [hr,dt hn]; rfl,openOf_ok hg⟩]
 rw [e] at b3
 refine ⟨H2,?_,a2.trans b2⟩
 have hl:(ruleMasksV kind value (ownOf (openOf n g) cells)).length=cells.length:=by
  unfold ruleMasksV
  rw [(ways_ok _ _ [] _ ⟨by simp,fun v hv=>by cases hv⟩ (by simp [ownOf]; omega) (Ms.zeros _)).2]
  simp [ownOf]
 have hul:=(own_reads b3).len
 have hd:(ruleMasksV kind value (ownOf (openOf n g) cells)).getD 0 0=(ruleMasksV kind value (ownOf (openOf n g) cells)).headD 0:=by
  cases ruleMasksV kind value (ownOf (openOf n g) cells) <;> rfl
 simp only [Int.natCast_zero] at a1
 simp (disch:=omega) only [spec_RulePossible.f,spec_RulePossible.j0,spec_RulePossible.j1,dt,df,bt,bf,nt,nf,Za,Zy,Zx,Zt,Zf,Zn,Zz,Zi,Zo,wr,AV.toB,AV.toI,AV.toS,if_true,h1,h2,a1,spec_RulePossible.j4,b1,rdn (own_reads b3),hd]
 rfl
structure PuzAt (H:Hp) (n:Int) (gs s:Sl) (given:List Int) (rs:List R):Prop where
 rg:Reads .i64 H gs given
 rr:ReadsR H s rs
 n4:2 ≤ n∧n ≤ 4
 gl:given.length ≤ 1000
 rl:rs.length ≤ 1000
 rc:∀ r ∈ rs,r.cells.length ≤ 1000
theorem PuzAt.pf {H H':Hp} {n:Int} {gs s:Sl} {given:List Int} {rs:List R} (h:PuzAt H n gs s given rs) (g:H <+: H'):PuzAt H' n gs s given rs:=⟨pf_reads g h.rg,pf_readsR g h.rr,h.n4,h.gl,h.rl,h.rc⟩
theorem puzzle_map (n:Int) (g:List Int) (rs:List R):puzzleOk n g rs=puzzleV n g (rs.map R.val):=by
 unfold puzzleOk puzzleV
 rw [List.length_map,List.all_map]; rfl
theorem rules_at1 {H:Hp} {s:Sl} {rs:List R} (h:ReadsR H s rs) (i:Nat) (hi:i < rs.length) :
  ldI .i64 H s.blk (s.off + i * 3)=some rs[i].kind∧ldS 1 H s.blk (s.off + i * 3 + 1)=some rs[i].sl∧ldI .i64 H s.blk (s.off + i * 3 + 1 + 1)=some rs[i].value:=rules_at h i hi
theorem l5Fits_l4 {k:Nat} (hk:2000040 ≤ k) {H0:Hp} {n:Int} {gs s xs:Sl} {given g:List Int} {rs:List R} (hz:PuzAt H0 n gs s given rs) (hro:∀ r ∈ rs,R.ok n r=true) (hx:Reads .i64 H0 xs g) (hg:gridOk g n=true) :
  ∀ (j i fuel:Nat) (H:Hp),i + j=rs.length→j < fuel→H0 <+: H→∃ H',spec_l5Fits.l4 (callF PP orc k) k fuel xs i n gs s H=some (.bool (((rs.drop i).map R.val).all (canHoldV n g) && !clash g n),H')∧H0 <+: H':=by
 have hlen:=hz.rr.len
 have hrl:=hz.rl
 intro j
 induction j with
 | zero=>
  intro i fuel H hi hf hp
  obtain ⟨fuel,rfl⟩:=Zs fuel (by omega)
  obtain ⟨H1,a1,a2⟩:=specl2Clash_ok (show 2000001 ≤ k by omega) (pf_reads hp hx) hg
  refine ⟨H1,?_,hp.trans a2⟩
  rw [List.drop_eq_nil_of_le (by omega),List.map_nil,List.all_nil,Bool.true_and]
  simp (disch:=omega) only [spec_l5Fits.l4,spec_l5Fits.j5,dt,df,bt,bf,nt,nf,Za,Zy,Zx,Zt,Zf,Zn,Zz,Zi,Zo,wr,AV.toB,AV.toI,AV.toS,if_true,a1]
 | succ j ih=>
  intro i fuel H hi hf hp
  obtain ⟨fuel,rfl⟩:=Zs fuel (by omega)
  have hi2:i < rs.length:=by omega
  obtain ⟨l0,l1,l2⟩:=rules_at1 (pf_readsR hp hz.rr) i hi2
  obtain ⟨H1,a1,a2⟩:=specRulePossible_ok hk (pf_reads hp (hz.rr.cs i hi2)) (pf_reads hp hx) (hro _ (List.getElem_mem hi2)) hg
  obtain ⟨H',b1,b2⟩:=ih (i + 1) fuel H1 (by omega) (by omega) (hp.trans a2)
  push_cast at b1
  rw [List.drop_eq_getElem_cons hi2,List.map_cons,List.all_cons]
  have e:canHoldV n g rs[i].val=canHoldV n g (rs[i].kind,rs[i].cells,rs[i].value):=rfl
  rw [e]
  cases c:canHoldV n g (rs[i].kind,rs[i].cells,rs[i].value) with
  | true=>
   rw [c] at a1
   refine ⟨H',?_,b2⟩
   simp (disch:=omega) only [spec_l5Fits.l4,dt,df,bt,bf,nt,nf,Za,Zy,Zx,Zt,Zf,Zn,Zz,Zi,Zo,wr,AV.toB,AV.toI,AV.toS,if_true,l0,l1,l2,a1,b1,Bool.true_and]
  | false=>
   rw [c] at a1
   refine ⟨H1,?_,hp.trans a2⟩
   simp (disch:=omega) only [spec_l5Fits.l4,dt,df,bt,bf,nt,nf,Za,Zy,Zx,Zt,Zf,Zn,Zz,Zi,Zo,wr,AV.toB,AV.toI,AV.toS,if_true,l0,l1,l2,a1,Bool.false_and]
theorem l5Fits_l0 {k:Nat} (hk:2000040 ≤ k) {H:Hp} {n:Int} {gs s xs:Sl} {given g:List Int} {rs:List R} (hz:PuzAt H n gs s given rs) (hro:∀ r ∈ rs,R.ok n r=true) (hx:Reads .i64 H xs g) (hg:gridOk g n=true) (hl:given.length=g.length) :
  ∀ (j i fuel:Nat),i + j=g.length→j < fuel→∃ H',spec_l5Fits.l0 (callF PP orc k) k fuel xs i n gs s H=some (.bool (compatFrom given g i j && ((rs.map R.val).all (canHoldV n g) && !clash g n)),H')∧H <+: H':=by
 have hgl:=hz.rg.len
 have hxl:=hx.len
 have h16:=gridOk_len hg
 intro j
 induction j with
 | zero=>
  intro i fuel hi hf
  obtain ⟨fuel,rfl⟩:=Zs fuel (by omega)
  obtain ⟨H1,a1,a2⟩:=l5Fits_l4 hk hz hro hx hg rs.length 0 k H (by omega) (by have:=hz.rl; omega) (List.prefix_refl _)
  simp only [Int.natCast_zero,List.drop_zero] at a1
  refine ⟨H1,?_,a2⟩
  simp (disch:=omega) only [spec_l5Fits.l0,spec_l5Fits.j2,dt,df,bt,bf,nt,nf,Za,Zy,Zx,Zt,Zf,Zn,Zz,Zi,Zo,wr,AV.toB,AV.toI,AV.toS,if_true,a1,compatFrom,Bool.true_and]
 | succ j ih=>
  intro i fuel hi hf
  obtain ⟨fuel,rfl⟩:=Zs fuel (by omega)
  obtain ⟨H',b1,b2⟩:=ih (i + 1) fuel (by omega) (by omega)
  push_cast at b1
  rw [compatFrom]
  by_cases c1:given.getD i 0 > 0
  ·by_cases c2:g.getD i 0 > 0
   ·by_cases c3:g.getD i 0=given.getD i 0
    ·refine ⟨H',?_,b2⟩
     simp (disch:=omega) only [spec_l5Fits.l0,spec_l5Fits.j1,spec_l5Fits.j3,dt,df,bt,bf,nt,nf,Za,Zy,Zx,Zt,Zf,Zn,Zz,Zi,Zo,wr,AV.toB,AV.toI,AV.toS,if_true,rdn hz.rg,rdn hx,b1,Bool.and_false,Bool.true_and]
    ·refine ⟨H,?_,(List.prefix_refl _)⟩
     simp (disch:=omega) only [spec_l5Fits.l0,spec_l5Fits.j1,spec_l5Fits.j3,dt,df,bt,bf,nt,nf,Za,Zy,Zx,Zt,Zf,Zn,Zz,Zi,Zo,wr,AV.toB,AV.toI,AV.toS,if_true,rdn hz.rg,rdn hx,Bool.and_true,Bool.false_and]
   ·refine ⟨H',?_,b2⟩
    simp (disch:=omega) only [spec_l5Fits.l0,spec_l5Fits.j1,spec_l5Fits.j3,dt,df,bt,bf,nt,nf,Za,Zy,Zx,Zt,Zf,Zn,Zz,Zi,Zo,wr,AV.toB,AV.toI,AV.toS,if_true,rdn hz.rg,rdn hx,b1,Bool.and_false,Bool.false_and,Bool.true_and]
  ·refine ⟨H',?_,b2⟩
   simp (disch:=omega) only [spec_l5Fits.l0,spec_l5Fits.j1,spec_l5Fits.j3,dt,df,bt,bf,nt,nf,Za,Zy,Zx,Zt,Zf,Zn,Zz,Zi,Zo,wr,AV.toB,AV.toI,AV.toS,if_true,rdn hz.rg,rdn hx,b1,Bool.false_and,Bool.true_and]
theorem specl5Fits_ok {k:Nat} (hk:2000041 ≤ k) {H:Hp} {n:Int} {gs s xs:Sl} {given g:List Int} {rs:List R} (hz:PuzAt H n gs s given rs) (hro:∀ r ∈ rs,R.ok n r=true) (hx:Reads .i64 H xs g) (hg:gridOk g n=true) (hl:given.length=g.length) :
  ∃ H',callF PP orc k spec_l5Fits.id [.agg [.int .i64 n,.sl 1 gs,.sl 3 s],.sl 1 xs] H=some (.bool (fitsV n given (rs.map R.val) g),H')∧H <+: H':=by
 obtain ⟨k,rfl⟩:=Zs k (by omega)
 rw [spec_l5Fits.call]
 have h16:=gridOk_len hg
 exact l5Fits_l0 (show 2000040 ≤ k by omega) hz hro hx hg hl g.length 0 k (by omega) (by omega)
theorem puzzleV_iff {n:Int} {given:List Int} {rs:List R} (h:puzzleV n given (rs.map R.val)=true):gridOk given n=true∧rs.length ≤ 20∧∀ r ∈ rs,R.ok n r=true:=by
 unfold puzzleV at h
 simp only [Bool.and_eq_true,decide_eq_true_eq,List.length_map,List.all_map,List.all_eq_true] at h
 exact ⟨h.1,h.2.1,h.2.2⟩
theorem grid_len_eq {n:Int} {a b:List Int} (ha:gridOk a n=true) (hb:gridOk b n=true):a.length=b.length:=by
 have:=((gridOk_iff a n).1 ha).2.1
 have:=((gridOk_iff b n).1 hb).2.1
 omega
theorem specPuzzleFits_ok {k:Nat} (hk:2000042 ≤ k) {H:Hp} {n:Int} {gs s xs:Sl} {given g:List Int} {rs:List R} (hz:PuzAt H n gs s given rs) (hx:Reads .i64 H xs g) (hl:g.length ≤ 1000) :
  ∃ H',callF PP orc k spec_PuzzleFits.id [.agg [.int .i64 n,.sl 1 gs,.sl 3 s],.sl 1 xs] H=some (.bool (puzzleFitsV n given (rs.map R.val) g),H')∧H <+: H':=by
 obtain ⟨k,rfl⟩:=Zs k (by omega)
 rw [spec_PuzzleFits.call]
 have h1:=specPuzzleValid_ok (show 2000003 ≤ k by omega) hz.n4 hz.rg hz.gl hz.rr hz.rl hz.rc
 have h2:=specGridValid_ok (show 2000000 ≤ k by omega) hx (by omega) n
 rw [puzzle_map] at h1
 unfold puzzleFitsV
 cases c1:puzzleV n given (rs.map R.val) with
 | false=>
  rw [c1] at h1
  exact ⟨H,by simp only [spec_PuzzleFits.f,dt,df,bt,bf,nt,nf,Za,Zy,Zx,Zt,Zf,Zn,Zz,Zi,Zo,wr,AV.toB,AV.toI,AV.toS,if_true,h1,Bool.false_and],(List.prefix_refl _)⟩
 | true=>
  rw [c1] at h1
  cases c2:gridOk g n with
  | false=>
   rw [c2] at h2
   exact ⟨H,by simp only [spec_PuzzleFits.f,dt,df,bt,bf,nt,nf,Za,Zy,Zx,Zt,Zf,Zn,Zz,Zi,Zo,wr,AV.toB,AV.toI,AV.toS,if_true,h1,h2,Bool.false_and,Bool.true_and],(List.prefix_refl _)⟩
  | true=>
   rw [c2] at h2
   obtain ⟨p1,p2,p3⟩:=puzzleV_iff c1
   obtain ⟨H1,a1,a2⟩:=specl5Fits_ok (show 2000041 ≤ k by omega) hz p3 hx c2 (grid_len_eq p1 c2)
   exact ⟨H1,by simp only [spec_PuzzleFits.f,dt,df,bt,bf,nt,nf,Za,Zy,Zx,Zt,Zf,Zn,Zz,Zi,Zo,wr,AV.toB,AV.toI,AV.toS,if_true,h1,h2,a1,Bool.true_and],a2⟩
theorem specPuzzleSolved_ok {k:Nat} (hk:2000043 ≤ k) {H:Hp} {n:Int} {gs s xs:Sl} {given g:List Int} {rs:List R} (hz:PuzAt H n gs s given rs) (hx:Reads .i64 H xs g) (hl:g.length ≤ 1000) :
  ∃ H',callF PP orc k spec_PuzzleSolved.id [.agg [.int .i64 n,.sl 1 gs,.sl 3 s],.sl 1 xs] H=some (.bool (puzzleSolvedV n given (rs.map R.val) g),H')∧H <+: H':=by
 obtain ⟨k,rfl⟩:=Zs k (by omega)
 rw [spec_PuzzleSolved.call]
 obtain ⟨H1,a1,a2⟩:=specPuzzleFits_ok (show 2000042 ≤ k by omega) hz hx hl
 have hxl:=hx.len
 unfold puzzleSolvedV
 cases c1:puzzleFitsV n given (rs.map R.val) g with
 | false=>
  rw [c1] at a1
  exact ⟨H1,by simp only [spec_PuzzleSolved.f,dt,df,bt,bf,nt,nf,Za,Zy,Zx,Zt,Zf,Zn,Zz,Zi,Zo,wr,AV.toB,AV.toI,AV.toS,if_true,a1,Bool.false_and],a2⟩
 | true=>
  rw [c1] at a1
  have hg:gridOk g n=true:=by
   unfold puzzleFitsV at c1
   simp only [Bool.and_eq_true] at c1; exact c1.2.1
  have h2:=specGridFilled_ok (show 2000001 ≤ k by omega) (pf_reads a2 hx) (by omega) n
  rw [hg,ip rfl] at h2
  refine ⟨H1,?_,a2⟩
  have e:(((filled g:Nat):Int) == (g.length:Int))=decide (filled g=g.length):=by rw [Bool.eq_iff_iff]; simp; omega
  simp only [spec_PuzzleSolved.f,dt,df,bt,bf,nt,nf,Za,Zy,Zx,Zt,Zf,Zn,Zz,Zi,Zo,wr,AV.toB,AV.toI,AV.toS,if_true,a1,h2,hxl,e,Bool.true_and]
/-! ### The search -/
structure Outs (B:Hp) (b:Nat) (H:Hp) (s:Sl) (ls:List (List Int)):Prop where
 cell:H[b]?=some (some ⟨false,[.sl 1 s]⟩)
 bB:B.length ≤ b
 bs:s.blk ≠ b
 ex:∃ ss:List Sl,Own 1 B H s (ss.map (.sl 1))∧ss.length=ls.length∧∀ i,(h:i < ss.length)→(h':i < ls.length)→Own 1 B H ss[i] (ls[i].map (.int .i64))∧ss[i].blk ≠ b∧ss[i].blk ≠ s.blk∧ss[i].blk < H.length∧B.length ≤ ss[i].blk
structure Adv2 (b c:Nat) (H H':Hp):Prop where
 but:∀ (d:Nat) (x:Option Blk),d ≠ b→d ≠ c→H[d]?=some x→H'[d]?=some x
 le:H.length ≤ H'.length
theorem Adv2.refl (b c:Nat) (H:Hp):Adv2 b c H H:=⟨fun _ _ _ _ h=>h,Nat.le_refl _⟩
theorem Adv2.cell {b c:Nat} {H H':Hp} (h:Adv2 b c H H') {d o:Nat} (h1:d ≠ b) (h2:d ≠ c) {v:AV} (hv:H.cell d o=some v):H'.cell d o=some v:=by
 unfold Hp.cell at hv ⊢
 split at hv
 ·rename_i x hx; rw [h.but d _ h1 h2 hx]; exact hv
 ·simp at hv
theorem Adv2.reads {b c:Nat} {H H':Hp} (h:Adv2 b c H H') {k:IntKind} {s:Sl} {l:List Int} (h1:s.blk ≠ b) (h2:s.blk ≠ c) (hr:Reads k H s l):Reads k H' s l:=⟨hr.len,fun i hi=>h.cell h1 h2 (hr.cell i hi)⟩
theorem Adv2.own {b c:Nat} {H H' B:Hp} (h:Adv2 b c H H') {sz:Nat} {s:Sl} {x:List AV} (h1:s.blk ≠ b) (h2:s.blk ≠ c) (hr:Own sz B H s x):Own sz B H' s x:=⟨hr.nn,hr.off,hr.blk,h.but _ _ h1 h2 hr.get,hr.len⟩
theorem Adv2.pf {b c:Nat} {H H' B:Hp} (h:Adv2 b c H H') (hb:B.length ≤ b) (hc:B.length ≤ c) (g:B <+: H):B <+: H':=by
 have hl0:=g.length_le
 have hle:=h.le
 rw [List.prefix_iff_eq_take]
 apply List.ext_getElem?
 intro i
 by_cases hi:i < B.length
 ·rw [List.getElem?_take,if_pos hi]
  have e:=List.getElem?_eq_getElem hi
  rw [e,h.but i _ (by omega) (by omega) (pf_get g e)]
 ·rw [List.getElem?_eq_none (by omega),List.getElem?_eq_none (by simp; omega)]
theorem Adv2.trans {b c c':Nat} {H H1 H2:Hp} (h:Adv2 b c H H1) (h':Adv2 b c' H1 H2) (hc:c'=c ∨ H.length ≤ c'):Adv2 b c H H2:=
 ⟨fun d x h1 h2 hx=>by
  have hd:=(List.getElem?_eq_some_iff.1 hx).1
  exact h'.but d x h1 (by omega) (h.but d x h1 h2 hx),Nat.le_trans h.le h'.le⟩
theorem pf_adv2 {b c:Nat} {H H':Hp} (g:H <+: H'):Adv2 b c H H':=⟨fun d x _ _ hx=>pf_get g hx,g.length_le⟩
theorem Outs.pf {B H H':Hp} {b:Nat} {s:Sl} {ls:List (List Int)} (h:Outs B b H s ls) (g:H <+: H'):Outs B b H' s ls:=by
 obtain ⟨ss,h1,h2,h3⟩:=h.ex
 exact ⟨pf_get g h.cell,h.bB,h.bs,ss,own_pf h1 g,h2,fun i hi hi'=>by
  obtain ⟨a,b,c,d,e⟩:=h3 i hi hi'
  exact ⟨own_pf a g,b,c,Nat.lt_of_lt_of_le d g.length_le,e⟩⟩
theorem Outs.len {B H:Hp} {b:Nat} {s:Sl} {ls:List (List Int)} (h:Outs B b H s ls):s.len=ls.length:=by
 obtain ⟨ss,h1,h2,h3⟩:=h.ex
 have:=h1.len
 simp at this; omega
theorem outs_app {B H:Hp} {b:Nat} {s:Sl} {ls:List (List Int)} (h:Outs B b H s ls) (hB:B <+: H) (hl:ls.length ≤ 100000) {t:Sl} {g:List Int} (ht:Own 1 B H t (g.map (.int .i64))) (t1:t.blk ≠ b) (t2:t.blk ≠ s.blk) (t3:t.blk < H.length) (t4:B.length ≤ t.blk) :
  ∃ H1 H2,H.app 1 s 1 [.sl 1 t]=some (Sl.mk false H.length 0 (ls.length + 1),H1)∧H1.sto b 0 [.sl 1 (Sl.mk false H.length 0 (ls.length + 1))]=some H2∧Outs B b H2 (Sl.mk false H.length 0 (ls.length + 1)) (ls ++ [g])∧Adv2 b s.blk H H2∧B <+: H2:=by
 obtain ⟨ss,h1,h2,h3⟩:=h.ex
 have hsl:=h.len
 obtain ⟨H1,a1,a2,a3,a4,a5⟩:=own_app h1 hB 1 [.sl 1 t] (by omega) (by omega) (by omega) (by omega) rfl
 rw [hsl] at a1 a3
 have hb1:=a4 b _ (Ne.symm h.bs) h.cell
 obtain ⟨H2,c1,c2,c3,c4⟩:=sto1' hb1 (.sl 1 (Sl.mk false H.length 0 (ls.length + 1)))
 have hbl:=(List.getElem?_eq_some_iff.1 h.cell).1
 have adv:Adv2 b s.blk H H2:=⟨fun d x d1 d2 hx=>c3 d x d1 (a4 d x d2 hx),by omega⟩
 refine ⟨H1,H2,a1,c1,⟨c2,h.bB,by simp only; omega,ss ++ [t],?_,by simp [h2],fun i hi hi'=>?_⟩,adv,adv.pf h.bB h1.blk hB⟩
 ·have:=c3.own (by simp only; omega) a3
  simpa using this
 ·by_cases e:i < ss.length
  ·obtain ⟨q1,q2,q3,q4,q5⟩:=h3 i e (by omega)
   rw [List.getElem_append_left e,List.getElem_append_left (by omega)]
   exact ⟨adv.own q2 q3 q1,q2,by simp only; omega,by omega,q5⟩
  ·have ei:i=ss.length:=by simp at hi; omega
   subst ei
   have e1:(ss ++ [t])[ss.length]=t:=by simp
   have e2:(ls ++ [g])[ss.length]=g:=by simp [h2]
   rw [e1,e2]
   exact ⟨adv.own t1 t2 ht,t1,by simp only; omega,by omega,t4⟩
def cntV (f:Int→Nat):Nat→Int→Nat
 | 0,_=>0
 | j + 1,v=>f v + cntV f j (v + 1)
def cnt (n:Int):Nat→List Int→Nat
 | 0,_=>1
 | rem + 1,g=>cntV (fun v=>if clash (g.set ((n * n).toNat - (rem + 1)) v) n=true then 0 else cnt n rem (g.set ((n * n).toNat - (rem + 1)) v)) n.toNat 1
def NumAt (b:Nat) (H:Hp) (x:Int):Prop:=H[b]?=some (some ⟨false,[.int .i64 x]⟩)
theorem grid_set {g:List Int} {n:Int} (h:gridOk g n=true) (i:Nat) (v:Int) (hv:0 ≤ v∧v ≤ n):gridOk (g.set i v) n=true:=by
 obtain ⟨h1,h2,h3⟩:=(gridOk_iff g n).1 h
 refine (gridOk_iff _ n).2 ⟨h1,by simpa using h2,fun x hx=>?_⟩
 rcases List.mem_or_eq_of_mem_set hx with hx | hx
 ·exact h3 x hx
 ·rw [hx]; exact hv
def Found (n:Int) (b:Nat) (H0 H':Hp) (a:AV):Prop:=∃ t g',a=.sl 1 t∧Reads .i64 H' t g'∧g'.length=(n * n).toNat∧(∀ v ∈ g',1 ≤ v∧v ≤ n)∧t.blk ≠ b
theorem l2Search_ok {n:Int} (hn:2 ≤ n∧n ≤ 4) {b:Nat}:∀ (rem:Nat) {k:Nat},2000002 + rem ≤ k→∀ {H:Hp} {s:Sl} {g:List Int} {left:Nat},rem ≤ (n * n).toNat→Reads .i64 H s g→s.blk ≠ b→gridOk g n=true→(∀ i,i + rem < (n * n).toNat→∀ v,g[i]?=some v→1 ≤ v)→NumAt b H left→left < 1000000→
  ∃ a H',callF PP orc k spec_l2Search.id [.sl 1 s,.int .i64 n,.int .i64 (((n * n).toNat - rem:Nat):Int),.ptr b 0] H=some (a,H')∧Adv b H H'∧(left < cnt n rem g→Found n b H H' a)∧(cnt n rem g ≤ left→(∃ t,a=.sl 1 t∧t.len=0)∧NumAt b H' ((left - cnt n rem g:Nat):Int)):=by
 have hnn:0 ≤ n * n∧n * n ≤ 16:=by
  have:n=2 ∨ n=3 ∨ n=4:=by omega
  rcases this with rfl | rfl | rfl <;> decide
 intro rem
 induction rem with
 | zero=>
  intro k hk H s g left hrem hs hsb hg hgv hnum hleft
  obtain ⟨k,rfl⟩:=Zs k (by omega)
  rw [spec_l2Search.call]
  obtain ⟨_,h2,h3⟩:=(gridOk_iff g n).1 hg
  have hsl:=hs.len
  have e1:((((n * n).toNat - 0:Nat):Int) == (s.len:Int))=true:=by simp; omega
  have hl:ldI .i64 H b 0=some (left:Int):=by unfold ldI Hp.cell; rw [hnum]; simp [AV.toI]
  have hb:=(List.getElem?_eq_some_iff.1 hnum).1
  by_cases c:left=0
  ·subst c
   refine ⟨.sl 1 s,H,?_,Adv.refl b H,fun _=>⟨s,g,rfl,hs,by omega,fun v hv=>?_,hsb⟩,fun h=>by simp [cnt] at h⟩
   ·have e2:(((0:Nat):Int) == 0)=true:=rfl
    simp only [spec_l2Search.f,e1,Zt,hl,Zo,e2]
   ·obtain ⟨i,hi,rfl⟩:=List.getElem_of_mem hv
    exact ⟨hgv i (by omega) _ (List.getElem?_eq_getElem hi),(h3 _ hv).2⟩
  ·have w:IntKind.i64.wrap ((left:Int) - 1)=((left - 1:Nat):Int):=by rw [wr (by omega) (by omega)]; omega
   obtain ⟨H',a1,a2,a3,a4⟩:=sto1' hnum (.int .i64 ((left - 1:Nat):Int))
   refine ⟨.sl 1 Sl.none,H',?_,⟨a3,by omega⟩,fun h=>by simp [cnt] at h; omega,fun _=>⟨⟨_,rfl,rfl⟩,by simpa [cnt,NumAt] using a2⟩⟩
   have e2:((left:Int) == 0)=false:=by simp; omega
   simp only [spec_l2Search.f,e1,Zt,Zf,hl,Zo,e2,w,a1]
 | succ rem ih=>
  intro k hk H s g left hrem hs hsb hg hgv hnum hleft
  obtain ⟨k,rfl⟩:=Zs k (by omega)
  rw [spec_l2Search.call]
  obtain ⟨_,h2,h3⟩:=(gridOk_iff g n).1 hg
  have hsl:=hs.len
  have e1:((((n * n).toNat - (rem + 1):Nat):Int) == (s.len:Int))=false:=by simp; omega
  generalize hat:(n * n).toNat - (rem + 1)=at' at *
  have hw:IntKind.i64.wrap ((at':Int) + 1)=(((n * n).toNat - rem:Nat):Int):=by rw [wr (by omega) (by omega)]; omega
  -- the loop
  have loop:∀ (j fuel:Nat) (v:Int) (H1:Hp) (left:Nat),v + j=n + 1→1 ≤ v→j < fuel→Adv b H H1→NumAt b H1 left→left < 1000000 →
    ∃ a H',spec_l2Search.l0 (callF PP orc k) k fuel s n at' b 0 v H1=some (a,H')∧Adv b H H'∧(left < cntV (fun v=>if clash (g.set at' v) n=true then 0 else cnt n rem (g.set at' v)) j v→Found n b H H' a)∧(cntV (fun v=>if clash (g.set at' v) n=true then 0 else cnt n rem (g.set at' v)) j v ≤ left→(∃ t,a=.sl 1 t∧t.len=0)∧NumAt b H' ((left - cntV (fun v=>if clash (g.set at' v) n=true then 0 else cnt n rem (g.set at' v)) j v:Nat):Int)):=by
   intro j
   induction j with
   | zero=>
    intro fuel v H1 left hv hv1 hf hadv hnum hleft
    obtain ⟨fuel,rfl⟩:=Zs fuel (by omega)
    have:¬ (v ≤ n):=by omega
    refine ⟨.sl 1 Sl.none,H1,?_,hadv,fun h=>by simp [cntV] at h,fun _=>⟨⟨_,rfl,rfl⟩,by simpa [cntV] using hnum⟩⟩
    simp only [spec_l2Search.l0,this,decide_false,Zf]
   | succ j ihj=>
    intro fuel v H1 left hv hv1 hf hadv hnum hleft
    obtain ⟨fuel,rfl⟩:=Zs fuel (by omega)
    have hvn:v ≤ n:=by omega
    have hs1:=hadv.reads hsb hs
    have c1:=read_ok hs1
    have c2:=appl_ok H1 g .i64 (by omega)
    have hnew:=own_new 1 H1 (g.map (.int .i64)) g.length (by simp)
    obtain ⟨H6,d1,d2,d3,d4,d5⟩:=own_set hnew (List.prefix_append _ _) at' (by omega) v
    have hb1:b < H1.length:=(List.getElem?_eq_some_iff.1 hnum).1
    have hg6:=grid_set hg at' v ⟨by omega,hvn⟩
    obtain ⟨H7,f1,f2⟩:=specl2Clash_ok (show 2000001 ≤ k by omega) (own_reads d3) hg6
    have adv6:Adv b H1 H6:=pf_adv d2
    have num7:NumAt b H7 left:=pf_get (d2.trans f2) hnum
    have adv7:Adv b H H7:=hadv.trans (pf_adv (d2.trans f2))
    have q0:(0:Int) ≤ (at':Int):=by omega
    have q1:(at':Int) < ((Sl.mk false H1.length 0 g.length).len:Int):=by show (at':Int) < (g.length:Int); omega
    have w1:IntKind.i64.wrap (v + 1)=v + 1:=wr (by omega) (by omega)
    have gl:s.len=g.length:=hsl
    simp only [Sl.mk.injEq] at d1
    have d1':(H1 ++ [some (Blk.mk false (g.map (.int .i64)))]).sto H1.length (0 + at') [.int .i64 v]=some H6:=d1
    cases hc:clash (g.set at' v) n with
    | true=>
     obtain ⟨a,H',i1,i2,i3,i4⟩:=ihj fuel (v + 1) H7 left (by omega) (by omega) (by omega) adv7 num7 hleft
     refine ⟨a,H',?_,i2,?_,?_⟩
     ·simp only [spec_l2Search.l0,spec_l2Search.j1,hvn,decide_true,Zt,c1,gl,c2,Zo,cells_ok,Za,q0,q1,Zn,Nat.mul_one,d1',f1,AV.toB,hc,w1,i1]
     ·simpa [cntV,hc] using i3
     ·simpa [cntV,hc] using i4
    | false=>
     have hs6:=pf_reads f2 (own_reads d3)
     obtain ⟨a,H8,r1,r2,r3,r4⟩:=ih (k:=k) (by omega) (H:=H7) (s:=Sl.mk false H1.length 0 g.length) (g:=g.set at' v) (left:=left) (by omega) hs6 (by simp only; omega) hg6 (fun i hi x hx=>by
      by_cases e:i=at'
      ·subst e
       rw [List.getElem?_set_self (by omega)] at hx
       simp at hx; omega
      ·rw [List.getElem?_set_ne (Ne.symm e)] at hx
       exact hgv i (by omega) x hx) num7 hleft
     by_cases hlt:left < cnt n rem (g.set at' v)
     ·obtain ⟨t,g',rfl,t1,t2,t3,t4⟩:=r3 hlt
      have hpos:(t.len:Int) > 0:=by rw [t1.len]; omega
      refine ⟨.sl 1 t,H8,?_,adv7.trans r2,fun _=>⟨t,g',rfl,t1,t2,t3,t4⟩,fun h=>by simp only [cntV,hc] at h; simp at h; omega⟩
      simp only [spec_l2Search.l0,spec_l2Search.j1,hvn,decide_true,Zt,c1,gl,c2,Zo,cells_ok,Za,q0,q1,Zn,Nat.mul_one,d1',f1,AV.toB,hc,Zf,hw,r1,AV.toS,if_true,hpos]
     ·obtain ⟨⟨t,rfl,t1⟩,t2⟩:=r4 (by omega)
      have hneg:¬ ((t.len:Int) > 0):=by omega
      obtain ⟨a,H',i1,i2,i3,i4⟩:=ihj fuel (v + 1) H8 _ (by omega) (by omega) (by omega) (adv7.trans r2) t2 (by omega)
      refine ⟨a,H',?_,i2,?_,?_⟩
      ·simp only [spec_l2Search.l0,spec_l2Search.j1,hvn,decide_true,Zt,c1,gl,c2,Zo,cells_ok,Za,q0,q1,Zn,Nat.mul_one,d1',f1,AV.toB,hc,Zf,hw,r1,AV.toS,if_true,hneg,decide_false,w1,i1]
      ·intro h
       simp only [cntV,hc] at h
       simp at h
       exact i3 (by omega)
      ·intro h
       simp only [cntV,hc] at h ⊢
       simp at h ⊢
       have:=i4 (by omega)
       rw [Nat.sub_sub] at this
       exact this
  obtain ⟨a,H',i1,i2,i3,i4⟩:=loop n.toNat k 1 H left (by omega) (by omega) (by omega) (Adv.refl b H) hnum hleft
  refine ⟨a,H',?_,i2,?_,?_⟩
  ·simp only [spec_l2Search.f,e1,Zf]; exact i1
  ·simpa [cnt,hat] using i3
  ·simpa [cnt,hat] using i4
structure WR (H0 H:Hp) (s:Sl) (rs:List R):Prop where
 own:Own 3 H0 H s (rs.flatMap R.av)
 rd:∀ i,(h:i < rs.length)→Reads .i64 H rs[i].sl rs[i].cells
 ne:∀ i,(h:i < rs.length)→rs[i].sl.blk ≠ s.blk
 lt:∀ i,(h:i < rs.length)→rs[i].sl.blk < H.length
 lo:∀ i,(h:i < rs.length)→H0.length ≤ rs[i].sl.blk
 nn:∀ i,(h:i < rs.length)→rs[i].sl.nil=false
structure WO (H0 H:Hp) (s:Sl) (rs:List R):Prop where
 own:Own 3 H0 H s (rs.flatMap R.av)
 oc:∀ i,(h:i < rs.length)→Own 1 H0 H rs[i].sl (rs[i].cells.map (.int .i64))
 ne:∀ i,(h:i < rs.length)→rs[i].sl.blk ≠ s.blk
 inj:∀ i j,(hi:i < rs.length)→(hj:j < rs.length)→i ≠ j→rs[i].sl.blk ≠ rs[j].sl.blk
theorem own_lt {sz:Nat} {H0 H:Hp} {s:Sl} {c:List AV} (h:Own sz H0 H s c):s.blk < H.length:=(List.getElem?_eq_some_iff.1 h.get).1
theorem cell_lt {H:Hp} {b o:Nat} {v:AV} (h:H.cell b o=some v):b < H.length:=by
 unfold Hp.cell at h
 split at h
 ·rename_i x hx; exact (List.getElem?_eq_some_iff.1 hx).1
 ·simp at h
theorem own_readsR {H0 H:Hp} {s:Sl} {rs:List R} (h:Own 3 H0 H s (rs.flatMap R.av)) (hr:∀ i,(h:i < rs.length)→Reads .i64 H rs[i].sl rs[i].cells):ReadsR H s rs:=
 ⟨by have:=h.len; rw [flat_length] at this; omega,fun i hi=>by rw [own_cell h,(flat0 rs i hi).1],fun i hi=>by rw [Nat.add_assoc,own_cell h,(flat0 rs i hi).2.1],fun i hi=>by rw [Nat.add_assoc,own_cell h,(flat0 rs i hi).2.2],hr⟩
theorem WR.reads {H0 H:Hp} {s:Sl} {rs:List R} (h:WR H0 H s rs):ReadsR H s rs:=own_readsR h.own h.rd
theorem WR.pf {H0 H H':Hp} {s:Sl} {rs:List R} (h:WR H0 H s rs) (g:H <+: H'):WR H0 H' s rs:=
 ⟨own_pf h.own g,fun i hi=>pf_reads g (h.rd i hi),h.ne,fun i hi=>Nat.lt_of_lt_of_le (h.lt i hi) g.length_le,h.lo,h.nn⟩
theorem WO.pf {H0 H H':Hp} {s:Sl} {rs:List R} (h:WO H0 H s rs) (g:H <+: H'):WO H0 H' s rs:=
 ⟨own_pf h.own g,fun i hi=>own_pf (h.oc i hi) g,h.ne,h.inj⟩
theorem own_len3 {H0 H:Hp} {s:Sl} {rs:List R} (h:Own 3 H0 H s (rs.flatMap R.av)):s.len=rs.length:=by
 have:=h.len; rw [flat_length] at this; omega
theorem wr_app {H0 H:Hp} {s:Sl} {rs:List R} (h:WR H0 H s rs) (g:H0 <+: H) (hl:rs.length ≤ 1000000) (r:R) (hr:Reads .i64 H r.sl r.cells) (hn:r.sl.blk ≠ s.blk) (hlt:r.sl.blk < H.length) (hlo:H0.length ≤ r.sl.blk) (hnn:r.sl.nil=false) :
  ∃ t' H',H.app 3 s 1 r.av=some (t',H')∧H0 <+: H'∧WR H0 H' t' (rs ++ [r])∧But s.blk H H'∧t'.blk=H.length∧H'.length=H.length + 1:=by
 have hlen:=own_len3 h.own
 obtain ⟨H',a1,a2,a3,a4,a5⟩:=own_app h.own g 1 r.av (by omega) (by omega) (by omega) (by omega) rfl
 refine ⟨_,H',a1,a2,⟨by simpa using a3,fun i hi=>?_,fun i hi=>?_,fun i hi=>?_,fun i hi=>?_,fun i hi=>?_⟩,a4,rfl,a5⟩
 ·by_cases e:i < rs.length
  ·simp only [List.getElem_append_left e]; exact a4.reads (h.ne i e) (h.rd i e)
  ·have ei:i=rs.length:=by simp at hi; omega
   subst ei
   simp only [List.getElem_concat_length]; exact a4.reads hn hr
 ·by_cases e:i < rs.length
  ·simp only [List.getElem_append_left e]; have:=h.lt i e; omega
  ·have ei:i=rs.length:=by simp at hi; omega
   subst ei
   simp only [List.getElem_concat_length]; omega
 ·by_cases e:i < rs.length
  ·simp only [List.getElem_append_left e]; have:=h.lt i e; omega
  ·have ei:i=rs.length:=by simp at hi; omega
   subst ei
   simp only [List.getElem_concat_length]; omega
 ·by_cases e:i < rs.length
  ·simp only [List.getElem_append_left e]; exact h.lo i e
  ·have ei:i=rs.length:=by simp at hi; omega
   subst ei
   simp only [List.getElem_concat_length]; exact hlo
 ·by_cases e:i < rs.length
  ·simp only [List.getElem_append_left e]; exact h.nn i e
  ·have ei:i=rs.length:=by simp at hi; omega
   subst ei
   simp only [List.getElem_concat_length]; exact hnn
theorem take_app {α:Type} (A B:List α) (m:Nat):((A.take m) ++ B).take m=(A ++ B).take m:=by
 rw [List.take_append,List.take_append,List.take_take,Nat.min_self,List.length_take]
 congr 1
 by_cases h:m ≤ A.length
 ·rw [show min m A.length=m by omega,show m - A.length=0 by omega,Nat.sub_self]
 ·rw [show min m A.length=A.length by omega]
def SearchTo (B:Hp) (b:Nat) (H:Hp) (s:Sl) (ls:List (List Int)) (most:Nat) (r:An):Prop:=
 ∃ H' s' ,r=some (.tup [],H')∧B <+: H'∧Outs B b H' s' (ls.take most)∧Adv2 b s.blk H H'∧(s'.blk=s.blk ∨ H.length ≤ s'.blk)
theorem l5Search_l0 {B:Hp} {b:Nat} {n:Int} {gs s:Sl} {given:List Int} {rs:List R} (hz:PuzAt B n gs s given rs) (hro:∀ r ∈ rs,R.ok n r=true) (hgg:gridOk given n=true) {most:Nat} (hmost:most ≤ 1000) :
  ∀ (rem k fuel:Nat),2000100 + rem ≤ k→rem < fuel→∀ (H:Hp) (xs o:Sl) (g:List Int) (ls:List (List Int)),rem ≤ g.length→B <+: H→Outs B b H o ls→ls.length < most→Reads .i64 H xs g→xs.blk ≠ b→xs.blk ≠ o.blk→gridOk g n=true →
   SearchTo B b H o (ls ++ sols (fitsV n given (rs.map R.val)) n.toNat rem g) most (spec_l5Search.l0 (callF PP orc k) k fuel xs ((g.length - rem:Nat):Int) (most:Int) b 0 n gs s H):=by
 have hn:=hz.n4
 intro rem
 induction rem with
 | zero=>
  intro k fuel hk hf H xs o g ls hrem hB ho hlm hx hxb hxo hg
  obtain ⟨fuel,rfl⟩:=Zs fuel (by omega)
  have h16:=gridOk_len hg
  have hxl:=hx.len
  have hol:=ho.len
  have hcell:ldS 1 H b 0=some o:=by unfold ldS Hp.cell; rw [ho.cell]; simp [AV.toS]
  have hbl:=(List.getElem?_eq_some_iff.1 ho.cell).1
  have g1:H <+: H ++ [some (Blk.mk false (g.map (.int .i64)))]:=List.prefix_append _ _
  have hnew:=own_new 1 H (g.map (.int .i64)) g.length (by simp)
  have hst:stableB H (H ++ [some (Blk.mk false (g.map (.int .i64)))]) b 0 1=true:=by
   have e1:H.cell b 0=some (.sl 1 o):=by unfold Hp.cell; rw [ho.cell]; rfl
   have e2:=pf_cell g1 e1
   unfold stableB
   simp [e1,e2,AV.same]
  have hob:o.blk < H.length:=by obtain ⟨ss,h1,_⟩:=ho.ex; exact own_lt' h1
  obtain ⟨H1,H2,a1,a2,a3,a4,a5⟩:=outs_app (ho.pf g1) (hB.trans g1) (by omega) (own_base hnew hB) (by first | omega | (simp only; omega) | (simp; omega)) (by first | omega | (simp only; omega) | (simp; omega)) (by simp) hB.length_le
  refine ⟨H2,Sl.mk false (H ++ [some (Blk.mk false (g.map (.int .i64)))]).length 0 (ls.length + 1),?_,a5,?_,(pf_adv2 g1).trans a4 (.inl rfl),.inr (by simp)⟩
  ·simp (disch:=omega) only [spec_l5Search.l0,spec_l5Search.j1,spec_l5Search.j3,dt,df,bt,bf,nt,nf,Za,Zy,Zx,Zt,Zf,Zn,Zz,Zi,Zo,wr,AV.toB,AV.toI,AV.toS,if_true,hcell,read_ok hx,hxl,appl_ok,cells_ok,hst,a1,a2]
  ·rw [sols,List.take_of_length_le (by simp; omega)]
   exact a3
 | succ rem ih=>
  intro k fuel hk hf H xs o g ls hrem hB ho hlm hx hxb hxo hg
  obtain ⟨fuel,rfl⟩:=Zs fuel (by omega)
  have h16:=gridOk_len hg
  have hxl:=hx.len
  have hol:=ho.len
  obtain ⟨_,g2,g3⟩:=(gridOk_iff g n).1 hg
  have hcell:∀ {H':Hp} {o':Sl} {ls':List (List Int)},Outs B b H' o' ls'→ldS 1 H' b 0=some o':=fun ho=>by unfold ldS Hp.cell; rw [ho.cell]; simp [AV.toS]
  have hat:g.length - (rem + 1) < g.length:=by omega
  generalize hA:g.length - (rem + 1)=at' at hat ⊢
  have hnext:IntKind.i64.wrap ((at':Int) + 1)=((g.length - rem:Nat):Int):=by rw [wr (by omega) (by omega)]; omega
  rw [sols,hA]
  by_cases c:0 < g.getD at' 0
  ·rw [ip c]
   have h1:=ih k fuel (by omega) (by omega) H xs o g ls (by omega) hB ho hlm hx hxb hxo hg
   rw [← hnext] at h1
   simp (disch:=omega) only [spec_l5Search.l0,spec_l5Search.j1,spec_l5Search.j2,dt,df,bf,Za,Zt,Zf,Zn,Zo,rdn hx]
   exact h1
  ·rw [iN c]
   have hbound:∀ {o':Sl} {H':Hp} {ls':List (List Int)},Outs B b H' o' ls'→o'.blk < H'.length:=fun ho=>by obtain ⟨ss,h1,_⟩:=ho.ex; exact own_lt' h1
   have loop:∀ (j fuel:Nat) (v:Int) (Hc:Hp) (oc:Sl) (lc:List (List Int)),v + j=n + 1→1 ≤ v→j < fuel→B <+: Hc→Outs B b Hc oc lc→lc.length ≤ most→Adv2 b o.blk H Hc→(oc.blk=o.blk ∨ H.length ≤ oc.blk) →
     SearchTo B b H o (lc ++ (upto j v).flatMap fun v=>if fitsV n given (rs.map R.val) (g.set at' v)=true then sols (fitsV n given (rs.map R.val)) n.toNat rem (g.set at' v) else []) most (spec_l5Search.l4 (callF PP orc k) k fuel xs at' (most:Int) b 0 v n gs s Hc):=by
    intro j
    induction j with
    | zero=>
     intro fuel v Hc oc lc hv hv1 hf hBc hoc hlc hadv hocb
     obtain ⟨fuel,rfl⟩:=Zs fuel (by omega)
     refine ⟨Hc,oc,?_,hBc,?_,hadv,hocb⟩
     ·simp (disch:=omega) only [spec_l5Search.l4,spec_l5Search.j5,dt,df,bt,bf,nt,nf,Za,Zy,Zx,Zt,Zf,Zn,Zz,Zi,Zo,wr,AV.toB,AV.toI,AV.toS,if_true]
     ·rw [upto,List.flatMap_nil,List.append_nil,List.take_of_length_le hlc]; exact hoc
    | succ j ihj=>
     intro fuel v Hc oc lc hv hv1 hf hBc hoc hlc hadv hocb
     obtain ⟨fuel,rfl⟩:=Zs fuel (by omega)
     have hcl:=hcell hoc
     have hol:=hoc.len
     by_cases cm:lc.length < most
     ·have hxc:=hadv.reads hxb hxo hx
      have hle:=hadv.le
      have hbl:=(List.getElem?_eq_some_iff.1 hoc.cell).1
      have hobl:=hbound hoc
      have g1:Hc <+: Hc ++ [some (Blk.mk false (g.map (.int .i64)))]:=List.prefix_append _ _
      have hnew:=own_new 1 Hc (g.map (.int .i64)) g.length (by simp)
      obtain ⟨H1,a1,a2,a3,a4⟩:=own_set1 hnew g1 at' hat v
      simp only at a1
      have hg1:=grid_set hg at' v ⟨by omega,by omega⟩
      obtain ⟨H2,b1,b2⟩:=specl5Fits_ok (show 2000041 ≤ k by omega) (hz.pf (hBc.trans a2)) hro (own_reads a3) hg1 (by rw [List.length_set]; exact grid_len_eq hgg hg)
      have p2:Hc <+: H2:=a2.trans b2
      have hr2:=pf_reads b2 (own_reads a3)
      rw [upto,List.flatMap_cons,← List.append_assoc]
      cases cf:fitsV n given (rs.map R.val) (g.set at' v) with
      | true=>
       rw [cf] at b1
       rw [ip rfl]
       obtain ⟨k',rfl⟩:∃ q,k=q + 1:=⟨k - 1,by omega⟩
       obtain ⟨H3,o3,d1,d2,d3,d4,d5⟩:=ih k' k' (by omega) (by omega) H2 (Sl.mk false Hc.length 0 g.length) oc (g.set at' v) lc (by simp; omega) (hBc.trans p2) (hoc.pf p2) cm hr2 (by first | omega | (simp only; omega) | (simp; omega)) (by first | omega | (simp only; omega) | (simp; omega)) hg1
       rw [List.length_set,← hnext] at d1
       have adv3:Adv2 b o.blk H H3:=(hadv.trans (pf_adv2 (b:=b) (c:=o.blk) p2) (.inl rfl)).trans d4 hocb
       have hb3:o3.blk=o.blk ∨ H.length ≤ o3.blk:=by
        have:=p2.length_le
        rcases d5 with e | e
        ·rw [e]; exact hocb
        ·right; omega
       have h2:=ihj fuel (v + 1) H3 o3 _ (by omega) (by omega) (by omega) d2 d3 (by simp; omega) adv3 hb3
       have e:SearchTo B b H o ((lc ++ sols (fitsV n given (rs.map R.val)) n.toNat rem (g.set at' v)) ++ (upto j (v + 1)).flatMap fun v=>if fitsV n given (rs.map R.val) (g.set at' v)=true then sols (fitsV n given (rs.map R.val)) n.toNat rem (g.set at' v) else []) most (spec_l5Search.l4 (callF PP orc (k' + 1)) (k' + 1) fuel xs at' (most:Int) b 0 (v + 1) n gs s H3):=by
        obtain ⟨H',s',q1,q2,q3,q4,q5⟩:=h2
        rw [take_app] at q3
        exact ⟨H',s',q1,q2,q3,q4,q5⟩
       have hcall:callF PP orc (k' + 1) spec_l5Search.id [.agg [.int .i64 n,.sl 1 gs,.sl 3 s],.sl 1 (Sl.mk false Hc.length 0 g.length),.int .i64 (IntKind.i64.wrap ((at':Int) + 1)),.int .i64 (most:Int),.ptr b 0] H2=some (.tup [],H3):=by
        rw [spec_l5Search.call]; exact d1
       simp (disch:=omega) only [spec_l5Search.l4,spec_l5Search.j5,spec_l5Search.j6,spec_l5Search.j7,dt,Za,Zt,Zn,Zo,hcl,read_ok hxc,hxl,appl_ok,cells_ok,a1,b1,AV.toB,hcall,wr (n:=v + 1)]
       exact e
      | false=>
       rw [cf] at b1
       rw [iN (by simp),List.append_nil]
       have h2:=ihj fuel (v + 1) H2 oc lc (by omega) (by omega) (by omega) (hBc.trans p2) (hoc.pf p2) hlc (hadv.trans (pf_adv2 (b:=b) (c:=o.blk) p2) (.inl rfl)) hocb
       simp (disch:=omega) only [spec_l5Search.l4,spec_l5Search.j5,spec_l5Search.j6,spec_l5Search.j7,dt,Za,Zt,Zf,Zn,Zo,hcl,read_ok hxc,hxl,appl_ok,cells_ok,a1,b1,AV.toB,wr (n:=v + 1)]
       exact h2
     ·refine ⟨Hc,oc,?_,hBc,?_,hadv,hocb⟩
      ·simp (disch:=omega) only [spec_l5Search.l4,spec_l5Search.j5,dt,df,bt,bf,nt,nf,Za,Zy,Zx,Zt,Zf,Zn,Zz,Zi,Zo,wr,AV.toB,AV.toI,AV.toS,if_true,hcl]
      ·rw [List.take_append_of_le_length (by omega),List.take_of_length_le hlc]; exact hoc
   have h1:=loop n.toNat k 1 H o ls (by omega) (by omega) (by omega) hB ho (by omega) (Adv2.refl _ _ _) (.inl rfl)
   simp (disch:=omega) only [spec_l5Search.l0,spec_l5Search.j1,spec_l5Search.j3,dt,df,bf,Za,Zt,Zf,Zn,Zo,rdn hx]
   exact h1
/-! ### spec.l5All -/
structure ReadsL (B H:Hp) (s:Sl) (ls:List (List Int)):Prop where
 len:s.len=ls.length
 at':∀ i,(h:i < ls.length)→∃ t,H.cell s.blk (s.off + i)=some (.sl 1 t)∧Own 1 B H t (ls[i].map (.int .i64))
theorem Outs.reads {B H:Hp} {b:Nat} {s:Sl} {ls:List (List Int)} (h:Outs B b H s ls):ReadsL B H s ls:=by
 obtain ⟨ss,h1,h2,h3⟩:=h.ex
 refine ⟨h.len,fun i hi=>⟨ss[i]'(by omega),?_,(h3 i (by omega) hi).1⟩⟩
 rw [own_cell h1]
 simp [show i < ss.length by omega]
theorem specl5All_ok {k:Nat} (hk:2000200 ≤ k) {H:Hp} {n:Int} {gs s:Sl} {given:List Int} {rs:List R} (hz:PuzAt H n gs s given rs) {most:Nat} (h0:1 ≤ most) (hmost:most ≤ 1000) :
  ∃ t H',callF PP orc k spec_l5All.id [.agg [.int .i64 n,.sl 1 gs,.sl 3 s],.int .i64 (most:Int)] H=some (.sl 1 t,H')∧H <+: H'∧ReadsL H H' t ((allSols n given (rs.map R.val)).take most):=by
 obtain ⟨k,rfl⟩:=Zs k (by omega)
 rw [spec_l5All.call]
 obtain ⟨H1,a1,a2,a3,a4⟩:=sto1' (H:=H ++ [some (Blk.mk false [])] ++ [some (Blk.mk false [.sl 1 Sl.none])]) (b:=(H ++ [some (Blk.mk false [])]).length) (x:=.sl 1 Sl.none) (by simp) (.sl 1 (Sl.mk false H.length 0 0))
 have hb:(H ++ [some (Blk.mk false ([]:List AV))]).length=H.length + 1:=by simp
 have p1:H <+: H1:=a3.pf (H0:=H) (by simp) ((List.prefix_append _ _).trans (List.prefix_append _ _)) (by omega)
 have ho1:Outs H (H ++ [some (Blk.mk false ([]:List AV))]).length H1 (Sl.mk false H.length 0 0) []:=by
  refine ⟨a2,by simp,by simp,[],?_,rfl,fun i hi=>by simp at hi⟩
  exact ⟨rfl,rfl,Nat.le_refl _,a3 _ _ (by simp) (by simp),rfl⟩
 obtain ⟨H2,b1,b2⟩:=specPuzzleFits_ok (show 2000042 ≤ k by omega) (hz.pf p1) (pf_reads p1 hz.rg) hz.gl
 have ho2:=ho1.pf b2
 unfold allSols
 cases c:puzzleFitsV n given (rs.map R.val) given with
 | false=>
  rw [c] at b1
  have hl:ldS 1 H2 (H ++ [some (Blk.mk false ([]:List AV))]).length 0=some (Sl.mk false H.length 0 0):=by unfold ldS Hp.cell; rw [ho2.cell]; simp [AV.toS]
  refine ⟨Sl.mk false H.length 0 0,H2,by simp only [spec_l5All.f,spec_l5All.j0,dt,df,bt,bf,nt,nf,Za,Zy,Zx,Zt,Zf,Zn,Zz,Zi,Zo,wr,AV.toB,AV.toI,AV.toS,if_true,a1,b1,hl],p1.trans b2,?_⟩
  rw [iN (by simp),List.take_nil]
  exact ho2.reads
 | true=>
  rw [c] at b1
  obtain ⟨k,rfl⟩:=Zs k (by omega)
  unfold puzzleFitsV at c
  simp only [Bool.and_eq_true] at c
  obtain ⟨q1,q2,q3⟩:=puzzleV_iff c.1
  have h16:=gridOk_len q1
  have hne:gs.blk ≠ (H ++ [some (Blk.mk false ([]:List AV))]).length∧gs.blk ≠ H.length:=by
   have hlt:0 < given.length:=by
    have:=((gridOk_iff given n).1 q1).2.1
    have hn:=hz.n4
    have:n=2 ∨ n=3 ∨ n=4:=by omega
    rcases this with rfl | rfl | rfl <;> omega
   have:=cell_lt (hz.rg.cell 0 hlt)
   omega
  obtain ⟨H3,o3,d1,d2,d3,d4,d5⟩:=l5Search_l0 hz q3 q1 hmost given.length k k (by omega) (by omega) H2 gs _ given [] (Nat.le_refl _) (p1.trans b2) ho2 (by simp; omega) (pf_reads (p1.trans b2) hz.rg) hne.1 hne.2 q1
  have hl:ldS 1 H3 (H ++ [some (Blk.mk false ([]:List AV))]).length 0=some o3:=by unfold ldS Hp.cell; rw [d3.cell]; simp [AV.toS]
  have hcall:callF PP orc (k + 1) spec_l5Search.id [.agg [.int .i64 n,.sl 1 gs,.sl 3 s],.sl 1 gs,.int .i64 0,.int .i64 (most:Int),.ptr (H ++ [some (Blk.mk false ([]:List AV))]).length 0] H2=some (.tup [],H3):=by
   rw [spec_l5Search.call]
   rw [Nat.sub_self] at d1; exact d1
  refine ⟨o3,H3,by simp only [spec_l5All.f,spec_l5All.j0,dt,df,bt,bf,nt,nf,Za,Zy,Zx,Zt,Zf,Zn,Zz,Zi,Zo,wr,AV.toB,AV.toI,AV.toS,if_true,a1,b1,hl,hcall],d2,?_⟩
  rw [ip rfl]
  exact d3.reads
theorem OwnRule_ok {k:Nat} (hk:1 ≤ k) {H:Hp} {kind value:Int} {cs:Sl} {cells:List Int} (hs:Reads .i64 H cs cells) (hl:cells.length ≤ 1000) :
  callF PP orc k spec_l1OwnRule.id [.agg [.int .i64 kind,.sl 1 cs,.int .i64 value]] H=some (.agg [.int .i64 kind,.sl 1 (Sl.mk false H.length 0 cells.length),.int .i64 value],H ++ [some (Blk.mk false (cells.map (.int .i64)))]):=by
 obtain ⟨k,rfl⟩:=Zs k (by omega)
 rw [spec_l1OwnRule.call]
 simp only [spec_l1OwnRule.f,read_ok hs,hs.len,appl_ok H cells .i64 (by omega),Zo,cells_ok,Za,Zt]
theorem OwnRuleList_l0 {k:Nat} (hk:1 ≤ k) {H0:Hp} {s:Sl} {rs:List R} (hs:ReadsR H0 s rs) (hl:rs.length ≤ 1000) (hc:∀ r ∈ rs,r.cells.length ≤ 1000) :
  ∀ (j i fuel:Nat) (H:Hp) (out:Sl) (qs:List R),i + j=rs.length→j < fuel→H0 <+: H→WR H0 H out qs→qs.map R.val=(rs.take i).map R.val →
   ∃ out' qs' H',spec_l1OwnRuleList.l0 (callF PP orc k) k fuel s out i H=some (.sl 3 out',H')∧H0 <+: H'∧WR H0 H' out' qs'∧qs'.map R.val=rs.map R.val:=by
 intro j
 induction j with
 | zero=>
  intro i fuel H out qs hi hf hp ho hv
  obtain ⟨fuel,rfl⟩:=Zs fuel (by omega)
  have:¬ ((i:Int) < (s.len:Int)):=by rw [hs.len]; omega
  refine ⟨out,qs,H,?_,hp,ho,by rw [hv,List.take_of_length_le (by omega)]⟩
  simp only [spec_l1OwnRuleList.l0,spec_l1OwnRuleList.j1,this,decide_false,Zf]
 | succ j ih=>
  intro i fuel H out qs hi hf hp ho hv
  obtain ⟨fuel,rfl⟩:=Zs fuel (by omega)
  have h2:i < rs.length:=by omega
  have hsH:=pf_readsR hp hs
  have l0:ldI .i64 H s.blk (s.off + i * 3)=some rs[i].kind:=by unfold ldI; rw [hsH.c0 i h2]; simp [AV.toI]
  have l1:ldS 1 H s.blk (s.off + i * 3 + 1)=some rs[i].sl:=by unfold ldS; rw [hsH.c1 i h2]; simp [AV.toS]
  have l2:ldI .i64 H s.blk (s.off + i * 3 + 1 + 1)=some rs[i].value:=by unfold ldI; rw [show s.off + i * 3 + 1 + 1=s.off + i * 3 + 2 from rfl,hsH.c2 i h2]; simp [AV.toI]
  have h4:=wrs (i:=i) (by omega)
  have q0:(0:Int) ≤ (i:Int):=by omega
  have q2:(i:Int) < (s.len:Int):=by rw [hs.len]; omega
  have hql:qs.length=i:=by have:=congrArg List.length hv; simp at this; omega
  have a1:=OwnRule_ok hk (kind:=rs[i].kind) (value:=rs[i].value) (hsH.cs i h2) (hc _ (List.getElem_mem h2))
  have g1:H <+: H ++ [some (Blk.mk false (rs[i].cells.map (.int .i64)))]:=List.prefix_append _ _
  have hnew:=own_new 1 H (rs[i].cells.map (.int .i64)) rs[i].cells.length (by simp)
  have hout:=own_lt ho.own
  obtain ⟨out1,H2,b1,b2,b3,b4,b5,b6⟩:=wr_app (ho.pf g1) (hp.trans g1) (by omega) { kind:=rs[i].kind,sl:=Sl.mk false H.length 0 rs[i].cells.length,cells:=rs[i].cells,value:=rs[i].value } (own_reads hnew) (by simp only; omega) (by simp) hp.length_le rfl
  obtain ⟨out',qs',H',d1,d2,d3,d4⟩:=ih (i + 1) fuel H2 out1 _ (by omega) (by omega) b2 b3 (by
   rw [List.take_succ_eq_append_getElem h2,List.map_append,List.map_append,hv]; rfl)
  push_cast at d1
  refine ⟨out',qs',H',?_,d2,d3,d4⟩
  simp only [R.av] at b1
  simp only [spec_l1OwnRuleList.l0,q0,q2,decide_true,Za,Zt,Zn,l0,l1,l2,Zo,a1,AV.isAgg,AV.cel,Zl,Zm,Zc,Zd,AV.toI,AV.toS,if_true,b1,h4,d1]
  try rfl
theorem OwnRuleList_ok {k:Nat} (hk:2000001 ≤ k) {H:Hp} {s:Sl} {rs:List R} (hs:ReadsR H s rs) (hl:rs.length ≤ 1000) (hc:∀ r ∈ rs,r.cells.length ≤ 1000) :
  ∃ t qs H',callF PP orc k spec_l1OwnRuleList.id [.sl 3 s] H=some (.sl 3 t,H')∧H <+: H'∧WR H H' t qs∧qs.map R.val=rs.map R.val:=by
 obtain ⟨k,rfl⟩:=Zs k (by omega)
 rw [spec_l1OwnRuleList.call]
 exact OwnRuleList_l0 (show 1 ≤ k by omega) hs hl hc rs.length 0 k (H ++ [some (Blk.mk false [])]) (Sl.mk false H.length 0 0) [] (by omega) (by omega) (List.prefix_append _ _)
  ⟨own_new 3 H [] 0 rfl,fun i hi=>absurd hi (Nat.not_lt_zero _),fun i hi=>absurd hi (Nat.not_lt_zero _),fun i hi=>absurd hi (Nat.not_lt_zero _),fun i hi=>absurd hi (Nat.not_lt_zero _),fun i hi=>absurd hi (Nat.not_lt_zero _)⟩ (by simp)
theorem OwnPuzzle_ok {k:Nat} (hk:2000002 ≤ k) {H:Hp} {n:Int} {gs s:Sl} {g:List Int} {rs:List R} (hg:Reads .i64 H gs g) (hgl:g.length ≤ 1000) (hs:ReadsR H s rs) (hl:rs.length ≤ 1000) (hc:∀ r ∈ rs,r.cells.length ≤ 1000) :
  ∃ gt t qs H',callF PP orc k spec_l1OwnPuzzle.id [.agg [.int .i64 n,.sl 1 gs,.sl 3 s]] H=some (.agg [.int .i64 n,.sl 1 gt,.sl 3 t],H')∧H <+: H'∧Own 1 H H' gt (g.map (.int .i64))∧WR H H' t qs∧qs.map R.val=rs.map R.val:=by
 obtain ⟨k,rfl⟩:=Zs k (by omega)
 rw [spec_l1OwnPuzzle.call]
 have g1:H <+: H ++ [some (Blk.mk false (g.map (.int .i64)))]:=List.prefix_append _ _
 have hnew:=own_new 1 H (g.map (.int .i64)) g.length (by simp)
 obtain ⟨t,qs,H',a1,a2,a3,a4⟩:=OwnRuleList_ok (show 2000001 ≤ k by omega) (pf_readsR g1 hs) hl hc
 refine ⟨_,t,qs,H',?_,g1.trans a2,own_pf hnew a2,⟨own_base a3.own g1,a3.rd,a3.ne,a3.lt,fun i hi=>Nat.le_trans g1.length_le (a3.lo i hi),a3.nn⟩,a4⟩
 simp only [spec_l1OwnPuzzle.f,read_ok hg,hg.len,appl_ok H g .i64 (by omega),Zo,cells_ok,Za,Zt,a1,AV.toS,if_true]
theorem Without_ok {k:Nat} (hk:1 ≤ k) {H:Hp} {n:Int} {gs s:Sl} {g:List Int} (hg:Reads .i64 H gs g) (hgl:g.length ≤ 1000) (i:Nat) (hi:i < g.length) :
  ∃ H',callF PP orc k spec_l10Without.id [.agg [.int .i64 n,.sl 1 gs,.sl 3 s],.int .i64 i] H=some (.agg [.int .i64 n,.sl 1 (Sl.mk false H.length 0 g.length),.sl 3 s],H')∧H <+: H'∧Own 1 H H' (Sl.mk false H.length 0 g.length) ((g.set i 0).map (.int .i64)):=by
 obtain ⟨k,rfl⟩:=Zs k (by omega)
 rw [spec_l10Without.call]
 have hnew:=own_new 1 H (g.map (.int .i64)) g.length (by simp)
 obtain ⟨H',a1,a2,a3,a4⟩:=own_set hnew (List.prefix_append _ _) i hi 0
 have q0:(0:Int) ≤ (i:Int):=by omega
 have q1:(i:Int) < (g.length:Int):=by omega
 have a1':(H ++ [some (Blk.mk false (g.map (.int .i64)))]).sto H.length (0 + i) [.int .i64 0]=some H':=a1
 refine ⟨H',?_,a2,a3⟩
 simp only [spec_l10Without.f,read_ok hg,hg.len,appl_ok H g .i64 (by omega),Zo,cells_ok,Za,Zt,q0,q1,decide_true,Zn,Nat.mul_one,a1']
def oneV (n:Int) (given:List Int) (vs:List V):Bool:=decide (((allSols n given vs).take 2).length=1)
def redundantV (n:Int) (given:List Int) (vs:List V) (c:Int):Bool:=
 puzzleV n given vs && (decide (0 ≤ c∧c ≤ (given.length:Int) - 1) && (decide (given.getD c.toNat 0 > 0) && (oneV n given vs && oneV n (given.set c.toNat 0) vs)))
def minFrom (n:Int) (vs:List V):List Int→Nat→Nat→List Int
 | g,_,0=>g
 | g,i,j + 1=>minFrom n vs (if redundantV n g vs i=true then g.set i 0 else g) (i + 1) j
def minimalOk (n:Int) (given:List Int) (vs:List V):Bool:=puzzleV n given vs && oneV n given vs
def minimalV (n:Int) (given:List Int) (vs:List V):List Int:=minFrom n vs given 0 given.length
theorem specOne_ok {k:Nat} (hk:2000201 ≤ k) {H:Hp} {n:Int} {gs s:Sl} {given:List Int} {rs:List R} (hz:PuzAt H n gs s given rs) :
  ∃ H',callF PP orc k spec_l10One.id [.agg [.int .i64 n,.sl 1 gs,.sl 3 s]] H=some (.bool (oneV n given (rs.map R.val)),H')∧H <+: H':=by
 obtain ⟨k,rfl⟩:=Zs k (by omega)
 rw [spec_l10One.call]
 obtain ⟨t,H1,a1,a2,a3⟩:=specl5All_ok (show 2000200 ≤ k by omega) hz (most:=2) (by omega) (by omega)
 have e:((t.len:Int) == 1)=oneV n given (rs.map R.val):=by
  unfold oneV
  rw [a3.len,Bool.eq_iff_iff]; simp; omega
 refine ⟨H1,?_,a2⟩
 have a1':callF PP orc k spec_l5All.id [.agg [.int .i64 n,.sl 1 gs,.sl 3 s],.int .i64 2] H=some (.sl 1 t,H1):=a1
 simp only [spec_l10One.f,dt,df,bt,bf,nt,nf,Za,Zy,Zx,Zt,Zf,Zn,Zz,Zi,Zo,wr,AV.toB,AV.toI,AV.toS,if_true,a1',e]
theorem PuzAt.set {H H':Hp} {n:Int} {gs gt s:Sl} {given g:List Int} {rs:List R} (h:PuzAt H n gs s given rs) (p:H <+: H') (hr:Reads .i64 H' gt g) (hl:g.length=given.length):PuzAt H' n gt s g rs:=
 ⟨hr,pf_readsR p h.rr,h.n4,by rw [hl]; exact h.gl,h.rl,h.rc⟩
theorem specIsRedundant_ok {k:Nat} (hk:2000202 ≤ k) {H:Hp} {n:Int} {gs s:Sl} {given:List Int} {rs:List R} (hz:PuzAt H n gs s given rs) (c:Int) :
  ∃ H',callF PP orc k spec_IsRedundant.id [.agg [.int .i64 n,.sl 1 gs,.sl 3 s],.int .i64 c] H=some (.bool (redundantV n given (rs.map R.val) c),H')∧H <+: H':=by
 obtain ⟨k,rfl⟩:=Zs k (by omega)
 rw [spec_IsRedundant.call]
 have h1:=specPuzzleValid_ok (show 2000003 ≤ k by omega) hz.n4 hz.rg hz.gl hz.rr hz.rl hz.rc
 rw [puzzle_map] at h1
 have hgl:=hz.rg.len
 have hgl2:=hz.gl
 have hl1:=fun n a b H=>l1In_ok (show 1 ≤ k by omega) n a b H
 unfold redundantV
 cases c1:puzzleV n given (rs.map R.val) with
 | false=>
  rw [c1] at h1
  exact ⟨H,by simp only [spec_IsRedundant.f,dt,df,bt,bf,nt,nf,Za,Zy,Zx,Zt,Zf,Zn,Zz,Zi,Zo,wr,AV.toB,AV.toI,AV.toS,if_true,h1,Bool.false_and],(List.prefix_refl _)⟩
 | true=>
  rw [c1] at h1
  by_cases c2:0 ≤ c∧c ≤ (given.length:Int) - 1
  ·by_cases c3:given.getD c.toNat 0 > 0
   ·obtain ⟨H1,a1,a2⟩:=specOne_ok (show 2000201 ≤ k by omega) hz
    cases c4:oneV n given (rs.map R.val) with
    | true=>
     rw [c4] at a1
     obtain ⟨H2,b1,b2,b3⟩:=Without_ok (show 1 ≤ k by omega) (n:=n) (s:=s) (pf_reads a2 hz.rg) hz.gl c.toNat (by omega)
     rw [show ((c.toNat:Nat):Int)=c by omega] at b1
     obtain ⟨H3,d1,d2⟩:=specOne_ok (show 2000201 ≤ k by omega) (hz.set (a2.trans b2) (own_reads b3) (by simp))
     refine ⟨H3,?_,a2.trans (b2.trans d2)⟩
     simp (disch:=omega) only [spec_IsRedundant.f,dt,df,bt,bf,nt,nf,Za,Zy,Zx,Zt,Zf,Zn,Zz,Zi,Zo,wr,AV.toB,AV.toI,AV.toS,if_true,h1,hl1,hgl,rdn hz.rg,a1,b1,d1,AV.isAgg,AV.cel,Zl,Zm,Zc,Zd,Bool.true_and]
     rfl
    | false=>
     rw [c4] at a1
     refine ⟨H1,?_,a2⟩
     simp (disch:=omega) only [spec_IsRedundant.f,dt,df,bt,bf,nt,nf,Za,Zy,Zx,Zt,Zf,Zn,Zz,Zi,Zo,wr,AV.toB,AV.toI,AV.toS,if_true,h1,hl1,hgl,rdn hz.rg,a1,Bool.true_and,Bool.false_and]
   ·refine ⟨H,?_,(List.prefix_refl _)⟩
    simp (disch:=omega) only [spec_IsRedundant.f,dt,df,bt,bf,nt,nf,Za,Zy,Zx,Zt,Zf,Zn,Zz,Zi,Zo,wr,AV.toB,AV.toI,AV.toS,if_true,h1,hl1,hgl,rdn hz.rg,Bool.true_and,Bool.false_and]
  ·refine ⟨H,?_,(List.prefix_refl _)⟩
   simp (disch:=omega) only [spec_IsRedundant.f,dt,df,bt,bf,nt,nf,Za,Zy,Zx,Zt,Zf,Zn,Zz,Zi,Zo,wr,AV.toB,AV.toI,AV.toS,if_true,h1,hl1,hgl,df c2,Bool.true_and,Bool.false_and]
theorem read3_ok {H0 H:Hp} {s:Sl} {c:List AV} (h:Own 3 H0 H s c):H.read 3 s=some c:=by
 unfold Hp.read
 have hl:=h.len
 by_cases h0:s.len=0
 ·rw [if_pos h0]
  have:c=[]:=List.length_eq_zero_iff.1 (by omega)
  subst this; rfl
 ·rw [if_neg h0,h.get]
  simp only [h.off]
  rw [if_pos (by omega),List.drop_zero,List.take_of_length_le (by omega)]
theorem appl3_ok (H:Hp) (c:List AV) (n:Nat) (hn:n ≤ 1000000) (hc:c.length=n * 3):H.appl 3 [] 0 n c=some (Sl.mk false H.length 0 n,H ++ [some (Blk.mk false c)]):=by
 unfold Hp.appl
 rw [if_pos (by simp; omega)]
 simp
theorem cells3_ok (rs:List R):(rs.flatMap R.av).all AV.cell=true:=by
 rw [List.all_eq_true]
 intro x hx
 obtain ⟨r,_,hr⟩:=List.mem_flatMap.1 hx
 simp [R.av] at hr
 rcases hr with rfl | rfl | rfl <;> rfl
theorem val_cells {rs qs:List R} (h:qs.map R.val=rs.map R.val) (m:Nat) (hc:∀ r ∈ rs,r.cells.length ≤ m):∀ r ∈ qs,r.cells.length ≤ m:=fun q hq=>by
 have:q.val ∈ rs.map R.val:=h ▸ List.mem_map_of_mem hq
 obtain ⟨r,hr,e⟩:=List.mem_map.1 this
 have e2:r.cells=q.cells:=congrArg (·.2.1) e
 rw [← e2]; exact hc r hr
theorem Minimal_l2 {k:Nat} (hk:2000202 ≤ k) {B0 B:Hp} (h0:B0 <+: B) {n n0:Int} {gs s g0 s0:Sl} {given:List Int} {rs:List R} (hz:PuzAt B n gs s given rs) :
  ∀ (j i fuel:Nat) (H:Hp) (gt:Sl) (g:List Int),i + j=given.length→j < fuel→B <+: H→g.length=given.length→Own 1 B0 H gt (g.map (.int .i64)) →
   ∃ gt' H',spec_MakeMinimal.l2 (callF PP orc k) k fuel i n0 g0 s0 n gt s H=some (.tup [.agg [.int .i64 n,.sl 1 gt',.sl 3 s],.bool true],H')∧B <+: H'∧Own 1 B0 H' gt' ((minFrom n (rs.map R.val) g i j).map (.int .i64)):=by
 have hgl:=hz.gl
 intro j
 induction j with
 | zero=>
  intro i fuel H gt g hi hf hp hl ho
  obtain ⟨fuel,rfl⟩:=Zs fuel (by omega)
  have hgt:=(own_reads ho).len
  refine ⟨gt,H,?_,hp,ho⟩
  simp (disch:=omega) only [spec_MakeMinimal.l2,spec_MakeMinimal.j4,dt,df,bt,bf,nt,nf,Za,Zy,Zx,Zt,Zf,Zn,Zz,Zi,Zo,wr,AV.toB,AV.toI,AV.toS,if_true]
 | succ j ih=>
  intro i fuel H gt g hi hf hp hl ho
  obtain ⟨fuel,rfl⟩:=Zs fuel (by omega)
  have hgt:=(own_reads ho).len
  obtain ⟨H1,a1,a2⟩:=specIsRedundant_ok hk (hz.set hp (own_reads ho) hl) (i:Int)
  rw [minFrom]
  cases c:redundantV n g (rs.map R.val) i with
  | true=>
   rw [c] at a1
   rw [ip rfl]
   obtain ⟨H2,b1,b2,b3⟩:=Without_ok (show 1 ≤ k by omega) (n:=n) (s:=s) (pf_reads a2 (own_reads ho)) (by omega) i (by omega)
   obtain ⟨gt',H',d1,d2,d3⟩:=ih (i + 1) fuel H2 _ (g.set i 0) (by omega) (by omega) (hp.trans (a2.trans b2)) (by simpa using hl) (own_base b3 (h0.trans (hp.trans a2)))
   push_cast at d1
   refine ⟨gt',H',?_,d2,d3⟩
   simp (disch:=omega) only [spec_MakeMinimal.l2,spec_MakeMinimal.j3,dt,df,bt,bf,nt,nf,Za,Zy,Zx,Zt,Zf,Zn,Zz,Zi,Zo,wr,AV.toB,AV.toI,AV.toS,if_true,a1,b1,AV.isAgg,AV.cel,Zl,Zm,Zc,Zd,d1]
   rfl
  | false=>
   rw [c] at a1
   rw [iN (by simp)]
   obtain ⟨gt',H',d1,d2,d3⟩:=ih (i + 1) fuel H1 gt g (by omega) (by omega) (hp.trans a2) hl (own_pf ho a2)
   push_cast at d1
   refine ⟨gt',H',?_,d2,d3⟩
   simp (disch:=omega) only [spec_MakeMinimal.l2,spec_MakeMinimal.j3,dt,df,bt,bf,nt,nf,Za,Zy,Zx,Zt,Zf,Zn,Zz,Zi,Zo,wr,AV.toB,AV.toI,AV.toS,if_true,a1,d1]
theorem specMakeMinimal_ok {k:Nat} (hk:2000300 ≤ k) {H:Hp} {n:Int} {gs s:Sl} {given:List Int} {rs:List R} (hz:PuzAt H n gs s given rs) :
  ∃ H',H <+: H'∧((minimalOk n given (rs.map R.val)=false∧callF PP orc k spec_MakeMinimal.id [.agg [.int .i64 n,.sl 1 gs,.sl 3 s]] H=some (.tup [.agg [.int .i64 0,.sl 1 Sl.none,.sl 3 Sl.none],.bool false],H')) ∨
   (minimalOk n given (rs.map R.val)=true∧∃ gt st qs,callF PP orc k spec_MakeMinimal.id [.agg [.int .i64 n,.sl 1 gs,.sl 3 s]] H=some (.tup [.agg [.int .i64 n,.sl 1 gt,.sl 3 st],.bool true],H')∧Own 1 H H' gt ((minimalV n given (rs.map R.val)).map (.int .i64))∧WR H H' st qs∧qs.map R.val=rs.map R.val∧∀ i,(h:i < qs.length)→qs[i].sl.blk ≠ gt.blk)):=by
 obtain ⟨k,rfl⟩:=Zs k (by omega)
 rw [spec_MakeMinimal.call]
 obtain ⟨gt,t,qs,H1,a1,a2,a3,a4,a5⟩:=OwnPuzzle_ok (show 2000002 ≤ k by omega) (n:=n) hz.rg hz.gl hz.rr hz.rl hz.rc
 have hql:qs.length=rs.length:=by have:=congrArg List.length a5; simpa using this
 have hzl:=hz.rl
 have hz1:PuzAt H1 n gt t given qs:=⟨own_reads a3,a4.reads,hz.n4,hz.gl,by rw [hql]; exact hz.rl,val_cells a5 1000 hz.rc⟩
 have h1:=specPuzzleValid_ok (show 2000003 ≤ k by omega) hz1.n4 hz1.rg hz1.gl hz1.rr hz1.rl hz1.rc
 rw [puzzle_map,a5] at h1
 unfold minimalOk
 cases c1:puzzleV n given (rs.map R.val) with
 | false=>
  rw [c1] at h1
  refine ⟨H1,a2,.inl ⟨rfl,?_⟩⟩
  simp only [spec_MakeMinimal.f,spec_MakeMinimal.j0,dt,df,bt,bf,nt,nf,Za,Zy,Zx,Zt,Zf,Zn,Zz,Zi,Zo,wr,AV.toB,AV.toI,AV.toS,if_true,a1,h1,AV.isAgg,AV.cel,Zl,Zm,Zc,Zd]
  rfl
 | true=>
  rw [c1] at h1
  obtain ⟨H2,b1,b2⟩:=specOne_ok (show 2000201 ≤ k by omega) hz1
  rw [a5] at b1
  cases c2:oneV n given (rs.map R.val) with
  | false=>
   rw [c2] at b1
   refine ⟨H2,a2.trans b2,.inl ⟨rfl,?_⟩⟩
   simp only [spec_MakeMinimal.f,spec_MakeMinimal.j0,dt,df,bt,bf,nt,nf,Za,Zy,Zx,Zt,Zf,Zn,Zz,Zi,Zo,wr,AV.toB,AV.toI,AV.toS,if_true,a1,h1,b1,AV.isAgg,AV.cel,Zl,Zm,Zc,Zd]
   rfl
  | true=>
   rw [c2] at b1
   have r1:=own_pf a3 b2
   have r2:=a4.pf b2
   have rgl:=(own_reads r1).len
   have rsl:=r2.reads.len
   have hgz:=hz.gl
   have p1:H <+: H2:=a2.trans b2
   have g1:H2 <+: H2 ++ [some (Blk.mk false (given.map (.int .i64)))]:=List.prefix_append _ _
   have g2:H2 ++ [some (Blk.mk false (given.map (.int .i64)))] <+: H2 ++ [some (Blk.mk false (given.map (.int .i64)))] ++ [some (Blk.mk false (qs.flatMap R.av))]:=List.prefix_append _ _
   have o1:=own_new 1 H2 (given.map (.int .i64)) given.length (by simp)
   have o2:=own_new 3 (H2 ++ [some (Blk.mk false (given.map (.int .i64)))]) (qs.flatMap R.av) qs.length (by rw [flat_length])
   have w2:WR H (H2 ++ [some (Blk.mk false (given.map (.int .i64)))] ++ [some (Blk.mk false (qs.flatMap R.av))]) (Sl.mk false (H2 ++ [some (Blk.mk false (given.map (.int .i64)))]).length 0 qs.length) qs:=
    ⟨own_base o2 (p1.trans g1),fun i hi=>pf_reads (g1.trans g2) (r2.rd i hi),fun i hi=>by have:=r2.lt i hi; simp; omega,fun i hi=>by have:=r2.lt i hi; simp; omega,r2.lo,r2.nn⟩
   have hz2:PuzAt (H2 ++ [some (Blk.mk false (given.map (.int .i64)))] ++ [some (Blk.mk false (qs.flatMap R.av))]) n (Sl.mk false H2.length 0 given.length) (Sl.mk false (H2 ++ [some (Blk.mk false (given.map (.int .i64)))]).length 0 qs.length) given qs:=
    ⟨pf_reads g2 (own_reads o1),w2.reads,hz.n4,hz.gl,by omega,hz1.rc⟩
   obtain ⟨gt',H',d1,d2,d3⟩:=Minimal_l2 (show 2000202 ≤ k by omega) (n0:=0) (g0:=Sl.none) (s0:=Sl.none) (g1.trans g2) hz2 given.length 0 k (H2 ++ [some (Blk.mk false (given.map (.int .i64)))] ++ [some (Blk.mk false (qs.flatMap R.av))]) (Sl.mk false H2.length 0 given.length) given (by omega) (by omega) (List.prefix_refl _) rfl (own_pf o1 g2)
   rw [a5] at d3
   refine ⟨H',p1.trans (g1.trans (g2.trans d2)),.inr ⟨rfl,gt',_,qs,?_,own_base d3 p1,w2.pf d2,a5,fun i hi=>by have:=r2.lt i hi; have:=d3.blk; omega⟩⟩
   simp only [Int.natCast_zero] at d1
   simp (disch:=omega) only [spec_MakeMinimal.f,spec_MakeMinimal.j0,spec_MakeMinimal.j1,dt,df,bt,bf,nt,nf,Za,Zy,Zx,Zt,Zf,Zn,Zz,Zi,Zo,wr,AV.toB,AV.toI,AV.toS,if_true,a1,h1,b1,AV.isAgg,AV.cel,Zl,Zm,Zc,Zd,read_ok (own_reads r1),rgl,appl_ok,cells_ok]
   rw [show H2 ++ [some (Blk.mk false (given.map (AV.int .i64)))]=(H2 ++ [some (Blk.mk false (given.map (AV.int .i64)))]) from rfl,read3_ok (own_pf r2.own g1),Option.bind_some,rsl,appl3_ok _ _ _ (by omega) (flat_length qs)]
   simp only [Zo,cells3_ok,Za,Zt,d1]
   rfl
def qN (a b c d:Nat):Bool:=(!(Nat.beq b 0) && Nat.beq b a) || ((!(Nat.beq c 0) && (Nat.beq c b || Nat.beq c a)) || (!(Nat.beq d 0) && (Nat.beq d c || (Nat.beq d b || Nat.beq d a))))
def clashN:List Nat→Bool
 | [a,b,c,d,e,f,g,h,i,j,k,l,m,n,o,p]=>qN a b c d || (qN e f g h || (qN i j k l || (qN m n o p || (qN a e i m || (qN b f j n || (qN c g k o || qN d h l p))))))
 | l=>clash (l.map Int.ofNat) 4
theorem line_eq (g:List Int) (c1 c2 c3 c4:Int) (a b c d:Nat) (h1:gv g c1=a) (h2:gv g c2=b) (h3:gv g c3=c) (h4:gv g c4=d):clashL g [c1,c2,c3,c4] []=qN a b c d:=by
 rw [Bool.eq_iff_iff]
 have eb:∀ x y:Nat,(Nat.beq x y=true)=(x=y):=fun x y=>by simp [Nat.beq_eq]
 simp only [clashL,h1,h2,h3,h4,qN,List.contains_cons,List.contains_nil,Bool.or_eq_true,Bool.and_eq_true,Bool.not_eq_true',Bool.or_false,beq_iff_eq,decide_eq_true_eq,Bool.false_eq_true,and_false,false_or,or_false,eb,← Bool.not_eq_true]
 omega
theorem clash_eq (l:List Nat):clash (l.map Int.ofNat) 4=clashN l:=by
 unfold clashN
 split
 ·rename_i a b c d e f g h i j k l m n o p
  have key:∀ G:List Int,clash G 4=(clashL G [0,1,2,3] [] || (clashL G [4,5,6,7] [] || (clashL G [8,9,10,11] [] || (clashL G [12,13,14,15] [] || (clashL G [0,4,8,12] [] || (clashL G [1,5,9,13] [] || (clashL G [2,6,10,14] [] || clashL G [3,7,11,15] []))))))):=fun G=>by
   have e:clash G 4=(clashL G (lineCells 4 0) [] || (clashL G (lineCells 4 1) [] || (clashL G (lineCells 4 2) [] || (clashL G (lineCells 4 3) [] || (clashL G (lineCells 4 4) [] || (clashL G (lineCells 4 5) [] || (clashL G (lineCells 4 6) [] || (clashL G (lineCells 4 7) [] || false)))))))):=rfl
   rw [e,show lineCells 4 0=[0,1,2,3] by decide,show lineCells 4 1=[4,5,6,7] by decide,show lineCells 4 2=[8,9,10,11] by decide,show lineCells 4 3=[12,13,14,15] by decide,show lineCells 4 4=[0,4,8,12] by decide,show lineCells 4 5=[1,5,9,13] by decide,show lineCells 4 6=[2,6,10,14] by decide,show lineCells 4 7=[3,7,11,15] by decide,Bool.or_false]
  rw [key]
  rw [line_eq _ 0 1 2 3 a b c d rfl rfl rfl rfl,line_eq _ 4 5 6 7 e f g h rfl rfl rfl rfl,line_eq _ 8 9 10 11 i j k l rfl rfl rfl rfl,line_eq _ 12 13 14 15 m n o p rfl rfl rfl rfl,
   line_eq _ 0 4 8 12 a e i m rfl rfl rfl rfl,line_eq _ 1 5 9 13 b f j n rfl rfl rfl rfl,line_eq _ 2 6 10 14 c g k o rfl rfl rfl rfl,line_eq _ 3 7 11 15 d h l p rfl rfl rfl rfl]
 ·rfl
def cntN:Nat→List Nat→Nat
 | 0,_=>1
 | rem + 1,l=>
  (bif clashN (l.set (15 - rem) 1) then 0 else cntN rem (l.set (15 - rem) 1)) + ((bif clashN (l.set (15 - rem) 2) then 0 else cntN rem (l.set (15 - rem) 2)) +
  ((bif clashN (l.set (15 - rem) 3) then 0 else cntN rem (l.set (15 - rem) 3)) + ((bif clashN (l.set (15 - rem) 4) then 0 else cntN rem (l.set (15 - rem) 4)) + 0)))
theorem cnt_eq:∀ (rem:Nat) (l:List Nat),cnt 4 rem (l.map Int.ofNat)=cntN rem l
 | 0,l=>rfl
 | rem + 1,l=>by
  have hs:∀ (v:Nat) (w:Int),w=Int.ofNat v→(if clash ((l.map Int.ofNat).set (16 - (rem + 1)) w) 4=true then 0 else cnt 4 rem ((l.map Int.ofNat).set (16 - (rem + 1)) w))=(bif clashN (l.set (15 - rem) v) then 0 else cntN rem (l.set (15 - rem) v)):=by
   rintro v w rfl
   rw [show 16 - (rem + 1)=15 - rem by omega,← List.map_set,clash_eq,cnt_eq rem]
   cases clashN (l.set (15 - rem) v) <;> rfl
  show cntV _ 4 1=_
  simp only [cntV]
  rw [cntN]
  exact congr (congrArg _ (hs 1 1 rfl)) (congr (congrArg _ (hs 2 (1 + 1) rfl)) (congr (congrArg _ (hs 3 (1 + 1 + 1) rfl)) (congr (congrArg _ (hs 4 (1 + 1 + 1 + 1) rfl)) rfl)))
set_option maxRecDepth 100000 in
theorem cntN4:cntN 16 (List.replicate 16 0)=576:=by decide +kernel
theorem cnt4:cnt 4 16 (List.replicate 16 0)=576:=by
 have:=cnt_eq 16 (List.replicate 16 0)
 rw [cntN4] at this
 simpa using this
set_option maxRecDepth 100000 in
theorem cnt2:cnt 2 4 (List.replicate 4 0)=2:=by decide +kernel
set_option maxRecDepth 100000 in
theorem cnt3:cnt 3 9 (List.replicate 9 0)=12:=by decide +kernel
def many (n:Int):Nat:=if n=2 then 2 else if n=3 then 12 else 576
theorem many_le (n:Int):1 ≤ many n∧many n ≤ 576:=by
 unfold many
 split
 ·omega
 ·split <;> omega
theorem cnt_many {n:Int} (hn:2 ≤ n∧n ≤ 4):cnt n (n * n).toNat (List.replicate (n * n).toNat 0)=many n:=by
 have:n=2 ∨ n=3 ∨ n=4:=by omega
 rcases this with rfl | rfl | rfl
 ·exact cnt2
 ·exact cnt3
 ·exact cnt4
def fullG (g:List Int) (n:Int):Prop:=g.length=(n * n).toNat∧∀ v ∈ g,1 ≤ v∧v ≤ n
theorem SquareNumber_ok {k:Nat} (hk:2000100 ≤ k) {n x:Int} (hn:2 ≤ n∧n ≤ 4) (hx:0 ≤ x∧x < (many n:Int)) (H:Hp) :
  ∃ t g H',callF PP orc k spec_SquareNumber.id [.int .i64 n,.int .i64 x] H=some (.sl 1 t,H')∧H <+: H'∧Own 1 H H' t (g.map (.int .i64))∧fullG g n:=by
 obtain ⟨k,rfl⟩:=Zs k (by omega)
 rw [spec_SquareNumber.call]
 have hnn:0 ≤ n * n∧n * n ≤ 16:=by
  have:n=2 ∨ n=3 ∨ n=4:=by omega
  rcases this with rfl | rfl | rfl <;> decide
 obtain ⟨left,rfl⟩:=Int.eq_ofNat_of_zero_le hx.1
 have hmany:many n ≤ 576:=(many_le n).2
 have w:IntKind.i64.wrap (n * n)=n * n:=wr (by omega) (by omega)
 obtain ⟨H3,a1,a2,a3,a4⟩:=sto1' (H:=H ++ [some (Blk.mk false [.int .i64 0])]) (b:=H.length) (x:=.int .i64 0) (by simp) (.int .i64 (left:Int))
 have hp3:H <+: H3:=a3.pf (Nat.le_refl _) (List.prefix_append _ _) (by omega)
 have hl3:H3.length=H.length + 1:=by rw [a4]; simp
 have e0:∀ N:Nat,(List.replicate N [AV.int .i64 0]).flatten=(List.replicate N 0).map (.int .i64):=fun N=>by
  induction N with
  | zero=>rfl
  | succ N ih=>simp [List.replicate_succ,ih]
 have hnew:=own_new 1 H3 ((List.replicate (n * n).toNat 0).map (.int .i64)) (n * n).toNat (by simp)
 have hgz:gridOk (List.replicate (n * n).toNat 0) n=true:=(gridOk_iff _ _).2 ⟨hn,by simp; omega,fun v hv=>by have:=(List.mem_replicate.1 hv).2; omega⟩
 obtain ⟨a,H4,b1,b2,b3,b4⟩:=l2Search_ok (b:=H.length) hn (n * n).toNat (k:=k) (by omega) (H:=H3 ++ [some (Blk.mk false ((List.replicate (n * n).toNat 0).map (.int .i64)))]) (left:=left) (Nat.le_refl _) (own_reads hnew) (by simp only; omega) hgz (fun i hi=>by omega) (pf_get (List.prefix_append _ _) a2) (by omega)
 obtain ⟨t,g',rfl,c1,c2,c3,c4⟩:=b3 (by rw [cnt_many hn]; omega)
 have d1:=read_ok c1
 have d2:=appl_ok H4 g' .i64 (by omega)
 have hp4:H <+: H4:=b2.but.pf (Nat.le_refl _) (hp3.trans (List.prefix_append _ _)) b2.le
 refine ⟨_,g',_,?_,hp4.trans (List.prefix_append _ _),own_base (own_new 1 H4 (g'.map (.int .i64)) g'.length (by simp)) hp4,c2,c3⟩
 have hx0:¬ ((left:Int) < 0):=by omega
 simp only [Nat.sub_self] at b1
 have tl:=c1.len
 simp only [spec_SquareNumber.f,spec_SquareNumber.j0,spec_SquareNumber.j1,l1In_ok (show 1 ≤ k by omega),hn,and_self,decide_true,Zo,AV.toB,Zy,Zf,hx0,decide_false,a1,w,e0]
 rw [if_pos (by omega)]
 have b1':callF PP orc k spec_l2Search.id [.sl 1 (Sl.mk false H3.length 0 (n * n).toNat),.int .i64 n,.int .i64 0,.ptr H.length 0] (H3 ++ [some (Blk.mk false ((List.replicate (n * n).toNat 0).map (.int .i64)))])=some (.sl 1 t,H4):=b1
 simp only [b1',Zo,AV.toS,if_true,d1,tl,d2,cells_ok,Za,Zt]
theorem l20Solved_ok {k:Nat} (hk:2000101 ≤ k) {b:Nat} {H:Hp} {l:List Int} {p:Nat} (h:RD b H l p) (hp:p ≤ 999999990) {n:Int} (hn:2 ≤ n∧n ≤ 4) :
  ∃ t g p' H',callF PP orc k spec_l20Solved.id [.ptr b 0,.int .i64 n] H=some (.sl 1 t,H')∧RD b H' l p'∧p' ≤ p + 2∧Adv b H H'∧Own 1 H H' t (g.map (.int .i64))∧fullG g n:=by
 obtain ⟨k,rfl⟩:=Zs k (by omega)
 rw [spec_l20Solved.call]
 have w:IntKind.i64.wrap (n - 2)=n - 2:=wr (by omega) (by omega)
 have hnew:=own_new 1 H ([2,12,576].map (.int .i64)) 3 rfl
 have h0:RD b (H ++ [some (Blk.mk false ([2,12,576].map (.int .i64)))]) l p:=h.pf (List.prefix_append _ _)
 obtain ⟨v,H2,a1,a2,a3,a4,a5,a6,a7⟩:=pick_ok (show 1 ≤ k by omega) h0 (by omega) 256
 obtain ⟨u,H3,b1,b2,b3,b4,b5,b6,b7⟩:=pick_ok (show 1 ≤ k by omega) a2 (by omega) 3
 have hv:=a6 (by omega)
 have hu:=b6 (by omega)
 have hm:ldI .i64 (H ++ [some (Blk.mk false ([2,12,576].map (.int .i64)))]) H.length (0 + (n - 2).toNat)=some (many n:Int):=by
  have:n=2 ∨ n=3 ∨ n=4:=by omega
  rcases this with rfl | rfl | rfl
  ·exact reads_at (own_reads hnew) 0 (by simp)
  ·exact reads_at (own_reads hnew) 1 (by simp)
  ·exact reads_at (own_reads hnew) 2 (by simp)
 have hmp:1 ≤ many n:=(many_le n).1
 have hmp2:many n ≤ 576:=(many_le n).2
 have w1:IntKind.i64.wrap (v * 3)=v * 3:=wr (by omega) (by omega)
 have w2:IntKind.i64.wrap (v * 3 + u)=v * 3 + u:=wr (by omega) (by omega)
 have m0:0 ≤ (v * 3 + u).tmod (many n:Int):=Int.tmod_nonneg _ (by omega)
 have m1:(v * 3 + u).tmod (many n:Int) < (many n:Int):=Int.tmod_lt_of_pos _ (by omega)
 obtain ⟨t,g,H4,c1,c2,c3,c4⟩:=SquareNumber_ok (show 2000100 ≤ k by omega) hn ⟨m0,m1⟩ H3
 have adv:Adv b H H3:=⟨fun c x hc hx=>b3 c x hc (a3 c x hc (pf_get (List.prefix_append _ _) hx)),by rw [b4,a4]; simp⟩
 refine ⟨t,g,p + 1 + 1,H4,?_,b2.pf c2,by omega,adv.trans (pf_adv c2),⟨c3.nn,c3.off,Nat.le_trans adv.le c3.blk,c3.get,c3.len⟩,c4⟩
 have q0:(0:Int) ≤ n - 2:=by omega
 have q1:n - 2 < ((3:Nat):Int):=by omega
 have hz:¬ ((many n:Int)=0):=by omega
 simp only [List.map_cons,List.map_nil] at hm a1
 simp only [spec_l20Solved.f,w,q0,q1,decide_true,Za,Zt,Nat.mul_one,hm,Zo,a1,b1,AV.toI,if_true,hz,if_false,w1,w2,c1,AV.toS]
theorem pick_adv {k:Nat} (hk:1 ≤ k) {b:Nat} {H:Hp} {l:List Int} {p:Nat} (h:RD b H l p) (hp:p ≤ 1000000000) (n:Int) :
  ∃ v H',callF PP orc k spec_l20Rd_pick.id [.ptr b 0,.int .i64 n] H=some (.int .i64 v,H')∧RD b H' l (p + 1)∧Adv b H H'∧0 ≤ v∧(1 ≤ n→v < n):=by
 obtain ⟨v,H',a1,a2,a3,a4,a5,a6,a7⟩:=pick_ok hk h hp n
 exact ⟨v,H',a1,a2,⟨a3,by omega⟩,a5,a6⟩
theorem odd_adv {k:Nat} (hk:2 ≤ k) {b:Nat} {H:Hp} {l:List Int} {p:Nat} (h:RD b H l p) (hp:p ≤ 1000000000) {n:Int} (hn:n < 1000000) :
  ∃ v p' H',callF PP orc k spec_l20Rd_odd.id [.ptr b 0,.int .i64 n] H=some (.bool v,H')∧RD b H' l p'∧p' ≤ p + 1∧Adv b H H'∧(n ≤ 0→v=false):=by
 obtain ⟨v,p',H',a1,a2,a3,a4,a5,a6⟩:=odd_ok hk h hp hn
 exact ⟨v,p',H',a1,a2,a3,⟨a4,by omega⟩,a6⟩
theorem lit_pick {k:Nat} (hk:1 ≤ k) {b:Nat} {H:Hp} {l:List Int} {p:Nat} (h:RD b H l p) (hp:p ≤ 1000000000) (c:List Int) (hc:1 ≤ c.length) (n:Int) (hn:n=(c.length:Int)) :
  ∃ v x H',callF PP orc k spec_l20Rd_pick.id [.ptr b 0,.int .i64 n] (H ++ [some (Blk.mk false (c.map (.int .i64)))])=some (.int .i64 v,H')∧RD b H' l (p + 1)∧Adv b H H'∧0 ≤ v∧v < n∧ldI .i64 H' H.length (0 + v.toNat * 1)=some x∧x ∈ c:=by
 obtain ⟨v,H',a1,a2,a3,a4,a5,a6,a7⟩:=pick_ok hk (h.pf (List.prefix_append H [some (Blk.mk false (c.map (.int .i64)))])) hp n
 have h1:=a6 (by omega)
 obtain ⟨x,c1,c2⟩:=among a3 h.lt a5 (by omega)
 exact ⟨v,x,H',a1,a2,⟨fun c y hc hy=>a3 c y hc (pf_get (List.prefix_append _ _) hy),by rw [a4]; simp⟩,a5,h1,by rw [Nat.mul_one]; exact c1,c2⟩
def CellsIn (n:Int) (cells:List Int):Prop:=(∀ c ∈ cells,0 ≤ c∧c < n * n)∧cells.Nodup
theorem cellsOk_of {n:Int} {cells:List Int} (h:CellsIn n cells):∀ (j i:Nat),i + j=cells.length→cellsOk n cells i j=true
 | 0,_,_=>rfl
 | j + 1,i,hi=>by
  have h2:i < cells.length:=by omega
  rw [cellsOk,cellsOk_of h j (i + 1) (by omega),Bool.and_true,Bool.and_eq_true,decide_eq_true_eq,Bool.not_eq_true']
  have h3:=h.1 _ (mem_getD h2)
  refine ⟨by omega,?_⟩
  have e:cells.getD i 0=cells[i]:=by simp [List.getD_eq_getElem?_getD,h2]
  rw [e,← Bool.not_eq_true,List.contains_iff_mem]
  intro hm
  obtain ⟨m,hm1,hm2⟩:=List.getElem_of_mem hm
  simp only [List.length_take] at hm1
  simp only [List.getElem_take] at hm2
  exact List.pairwise_iff_getElem.1 h.2 m i (by omega) h2 (by omega) hm2
theorem CellsIn.take {n:Int} {cells:List Int} (h:CellsIn n cells) (m:Nat):CellsIn n (cells.take m):=⟨fun c hc=>h.1 c (List.mem_of_mem_take hc),h.2.sublist (List.take_sublist _ _)⟩
theorem CellsIn.two {n:Int} {cells:List Int} (h:CellsIn n cells) (h2:2 ≤ cells.length):CellsIn n [cells.getD 0 0,cells.getD 1 0]∧CellsIn n [cells.getD 1 0,cells.getD 0 0]:=by
 have a0:=h.1 _ (mem_getD (show 0 < cells.length by omega))
 have a1:=h.1 _ (mem_getD (show 1 < cells.length by omega))
 have e0:cells.getD 0 0=cells[0]:=by simp [List.getD_eq_getElem?_getD,show 0 < cells.length by omega]
 have e1:cells.getD 1 0=cells[1]:=by simp [List.getD_eq_getElem?_getD,show 1 < cells.length by omega]
 have hne:cells.getD 0 0 ≠ cells.getD 1 0:=by
  rw [e0,e1]; intro e
  exact List.pairwise_iff_getElem.1 h.2 0 1 (by omega) (by omega) (by omega) e
 generalize cells.getD 0 0=x at *
 generalize cells.getD 1 0=y at *
 exact ⟨⟨by simp; omega,by simpa using hne⟩,⟨by simp; omega,by simpa using Ne.symm hne⟩⟩
theorem ruleOk_of {n kind value:Int} {cells:List Int} (h:CellsIn n cells) (hk:kindOk n kind value cells.length=true):ruleOk n kind cells value=true:=by
 unfold ruleOk; rw [cellsOk_of h cells.length 0 (by omega),hk]; rfl
def RuleDraw (b:Nat) (l:List Int) (n x3:Int) (p0:Nat) (H0:Hp) (r:An):Prop:=
 ∃ kind cs value cells p' H',r=some (.agg [.int .i64 kind,.sl 1 cs,.int .i64 value],H')∧RD b H' l p'∧p' ≤ p0∧Adv b H0 H'∧Reads .i64 H' cs cells∧cs.blk ≠ b∧H0.length ≤ cs.blk∧cs.blk < H'.length∧cs.nil=false∧cells.length ≤ 5∧(x3 ≤ 0→ruleOk n kind cells value=true)
theorem Rule_j10 {k:Nat} (hk:10 ≤ k) {b:Nat} {l:List Int} {n x3:Int} (hn:2 ≤ n∧n ≤ 4) (hx3:x3 < 1000000) {p p0:Nat} (hp:p + 3 ≤ p0) (hp0:p0 ≤ 1000000000) {H0 H:Hp} (hadv:Adv b H0 H) (hb:b < H0.length) (hrd:RD b H l p) {kind value y0 y2:Int} {y1 cs:Sl} {cells:List Int} (hc:Reads .i64 H cs cells) (hcb:H0.length ≤ cs.blk) (hcl:cs.blk < H.length) (hcn:cs.nil=false) (h1:1 ≤ cells.length) (h4:cells.length ≤ 4) (hr:ruleOk n kind cells value=true) :
  RuleDraw b l n x3 p0 H0 (spec_l20Rule.j10 (callF PP orc k) k b 0 n x3 y0 y1 y2 kind cs value H):=by
 have h7:=n7 (n:=n) (by omega)
 obtain ⟨v,p1,H1,a1,a2,a3,a4,a5⟩:=odd_adv (show 2 ≤ k by omega) hrd (by omega) hx3
 have hcne:cs.blk ≠ b:=by omega
 have hle:=a4.le
 have hcs:=hc.len
 cases v with
 | false=>exact ⟨kind,cs,value,cells,p1,H1,by simp only [spec_l20Rule.j10,spec_l20Rule.j12,dt,df,bt,bf,nt,nf,Za,Zy,Zx,Zt,Zf,Zn,Zz,Zi,Zo,wr,AV.toB,AV.toI,AV.toS,if_true,a1],a2,by omega,hadv.trans a4,a4.reads hcne hc,hcne,hcb,by omega,hcn,by omega,fun _=>hr⟩
 | true=>
  have hx:¬ x3 ≤ 0:=fun h=>by have:=a5 h; cases this
  obtain ⟨v,H2,b1,b2,b3,b4,b5⟩:=pick_adv (show 1 ≤ k by omega) a2 (by omega) 4
  have adv2:=(hadv.trans a4).trans b3
  have hc2:=(a4.trans b3).reads hcne hc
  have hle2:=b3.le
  have hb2:b < H2.length:=b2.lt
  by_cases v0:v=0
  ·obtain ⟨w,x,H3,c1,c2,c3,c4,c5,c6,c7⟩:=lit_pick (show 1 ≤ k by omega) b2 (by omega) [0,6] (by simp) 2 rfl
   simp only [List.map_cons,List.map_nil] at c1
   have hle3:=c3.le
   refine ⟨x,cs,value,cells,_,H3,?_,c2,by omega,adv2.trans c3,c3.reads hcne hc2,hcne,hcb,by omega,hcn,by omega,fun h=>absurd h hx⟩
   simp (disch:=omega) only [spec_l20Rule.j10,spec_l20Rule.j12,dt,df,bt,bf,nt,nf,Za,Zy,Zx,Zt,Zf,Zn,Zz,Zi,Zo,wr,AV.toB,AV.toI,AV.toS,if_true,a1,b1,v0,c1,c6]
  ·by_cases v1:v=1
   ·obtain ⟨H3,c1,c2,c3⟩:=copy_app hc2 (by omega) (cells.getD 0 0)
    have hst:=stable_ok hc2 (pf_reads (List.prefix_append H2 [some (Blk.mk false (cells.map (.int .i64)))]) hc2) (show 0 < cells.length by omega)
    refine ⟨kind,_,value,cells ++ [cells.getD 0 0],_,H3,?_,b2.pf c2,by omega,adv2.trans (pf_adv c2),own_reads c3,by have:=adv2.le; simp only; omega,by have:=adv2.le; simp only; omega,own_lt' c3,rfl,by simp; omega,fun h=>absurd h hx⟩
    simp (disch:=omega) only [spec_l20Rule.j10,spec_l20Rule.j12,dt,df,bt,bf,nt,nf,Za,Zy,Zx,Zt,Zf,Zn,Zz,Zi,Zo,wr,AV.toB,AV.toI,AV.toS,if_true,a1,b1,v1,rdn hc2,read_ok hc2,hcs,appl_ok,cells_ok,hst,c1]
   ·by_cases v2:v=2
    ·have hnew:=own_new 1 H2 (([n * n,0]:List Int).map (.int .i64)) 2 rfl
     refine ⟨kind,_,value,[n * n,0],_,_,?_,b2.pf (List.prefix_append H2 [some (Blk.mk false (([n * n,0]:List Int).map (.int .i64)))]),by omega,adv2.trans (pf_adv (List.prefix_append _ _)),own_reads hnew,by have:=adv2.le; simp only; omega,by have:=adv2.le; simp only; omega,own_lt' hnew,rfl,by simp,fun h=>absurd h hx⟩
     simp (disch:=omega) only [spec_l20Rule.j10,spec_l20Rule.j12,dt,df,bt,bf,nt,nf,Za,Zy,Zx,Zt,Zf,Zn,Zz,Zi,Zo,wr,AV.toB,AV.toI,AV.toS,if_true,a1,b1,v2,List.map_cons,List.map_nil]
    ·obtain ⟨w,x,H3,c1,c2,c3,c4,c5,c6,c7⟩:=lit_pick (show 1 ≤ k by omega) b2 (by omega) [-1,257] (by simp) 2 rfl
     simp only [List.map_cons,List.map_nil] at c1
     have hle3:=c3.le
     refine ⟨kind,cs,x,cells,_,H3,?_,c2,by omega,adv2.trans c3,c3.reads hcne hc2,hcne,hcb,by omega,hcn,by omega,fun h=>absurd h hx⟩
     simp (disch:=omega) only [spec_l20Rule.j10,spec_l20Rule.j12,dt,df,bt,bf,nt,nf,Za,Zy,Zx,Zt,Zf,Zn,Zz,Zi,Zo,wr,AV.toB,AV.toI,AV.toS,if_true,a1,b1,c1,c6]
theorem kindOk_sum {n v:Int} {m:Nat} (hn:2 ≤ n∧n ≤ 4) (h1:1 ≤ m) (h4:m ≤ 4) (v1:1 ≤ v) (v2:v ≤ n * n * n * n) (kind:Int) (hk:kind=2 ∨ kind=3):kindOk n kind v m=true:=by
 unfold kindOk
 rcases hk with rfl | rfl <;> simp <;> omega
theorem kindOk5 {n v:Int} (h:0 ≤ v∧v < n):kindOk n 5 v 2=true:=by
 unfold kindOk; simp; exact h
theorem Rule_j7 {k:Nat} (hk:20 ≤ k) {b:Nat} {l:List Int} {n x3:Int} (hn:2 ≤ n∧n ≤ 4) (hx3:x3 < 1000000) {p p0:Nat} (hp:p + 4 ≤ p0) (hp0:p0 ≤ 1000000000) {H0 H:Hp} (hadv:Adv b H0 H) (hb:b < H0.length) (hrd:RD b H l p) {sum prod y0 y2:Int} {y1 xs cs:Sl} {g cells:List Int} (hx:Reads .i64 H xs g) (hxb:xs.blk ≠ b) (hg:fullG g n) (hc:Reads .i64 H cs cells) (hcb:H0.length ≤ cs.blk) (hcl:cs.blk < H.length) (hcn:cs.nil=false) (h1:1 ≤ cells.length) (h4:cells.length ≤ 4) (hin:CellsIn n cells) (hs1:1 ≤ sum) (hs2:sum ≤ n * n * n * n) (hq1:1 ≤ prod) (hq2:prod ≤ n * n * n * n) :
  RuleDraw b l n x3 p0 H0 (spec_l20Rule.j7 (callF PP orc k) k b 0 xs n x3 cs sum prod y0 y1 y2 H):=by
 obtain ⟨v,H2,b1,b2,b3,b4,b5⟩:=pick_adv (show 1 ≤ k by omega) hrd (by omega) 5
 have h7:=n7 (n:=n) (by omega)
 have hcne:cs.blk ≠ b:=by omega
 have adv2:=hadv.trans b3
 have hc2:=b3.reads hcne hc
 have hx2:=b3.reads hxb hx
 have hle2:=b3.le
 have hle0:=adv2.le
 have hcs:=hc.len
 have hxs:=hx.len
 have hgl:(g.length:Int)=n * n:=by have:=hg.1; omega
 have hm:mx 1 sum=sum:=by unfold mx; split <;> omega
 have hsum:=Rule_j10 (show 10 ≤ k by omega) hn hx3 (p:=p + 1) (p0:=p0) (by omega) hp0 adv2 hb b2 (y0:=y0) (y1:=y1) (y2:=y2) hc2 hcb (by omega) hcn h1 h4 (ruleOk_of hin (kindOk_sum hn h1 h4 hs1 hs2 2 (.inl rfl)))
 have gvs:∀ i,i < cells.length→(0 ≤ cells.getD i 0∧cells.getD i 0 < (g.length:Int))∧1 ≤ g.getD (cells.getD i 0).toNat 0∧g.getD (cells.getD i 0).toNat 0 ≤ n:=fun i hi=>by
  have a:=hin.1 _ (mem_getD hi)
  have hlt:(cells.getD i 0).toNat < g.length:=by omega
  exact ⟨by omega,hg.2 _ (mem_getD hlt)⟩
 by_cases v0:v=0
 ·have:=Rule_j10 (show 10 ≤ k by omega) hn hx3 (p:=p + 1) (p0:=p0) (by omega) hp0 adv2 hb b2 (y0:=y0) (y1:=y1) (y2:=y2) hc2 hcb (by omega) hcn h1 h4 (ruleOk_of hin (kindOk_sum hn h1 h4 hq1 hq2 3 (.inr rfl)))
  simp only [spec_l20Rule.j7,b1,Zo,AV.toI,if_true]
  rw [bt v0,cond_true]
  exact this
 by_cases c2:2 ≤ cells.length
 ·obtain ⟨⟨g00,g01⟩,g02,g03⟩:=gvs 0 (by omega)
  obtain ⟨⟨g10,g11⟩,g12,g13⟩:=gvs 1 (by omega)
  obtain ⟨two1,two2⟩:=hin.two c2
  have ht:=reads_take hc2 2 (by omega) cs.nil
  have hsl:Sl.mk cs.nil cs.blk (cs.off + 0 * 1) ((2:Int) - 0).toNat=Sl.mk cs.nil cs.blk cs.off 2:=rfl
  by_cases v1:v=1
  ·have q1:H2 <+: H2 ++ [some (Blk.mk false (([cells.getD 0 0,cells.getD 1 0]:List Int).map (.int .i64)))]:=List.prefix_append _ _
   have hnew:=own_new 1 H2 (([cells.getD 0 0,cells.getD 1 0]:List Int).map (.int .i64)) 2 rfl
   by_cases cg:g.getD (cells.getD 0 0).toNat 0 > g.getD (cells.getD 1 0).toNat 0
   ·have q2:H2 ++ [some (Blk.mk false (([cells.getD 0 0,cells.getD 1 0]:List Int).map (.int .i64)))] <+: H2 ++ [some (Blk.mk false (([cells.getD 0 0,cells.getD 1 0]:List Int).map (.int .i64)))] ++ [some (Blk.mk false (([cells.getD 1 0,cells.getD 0 0]:List Int).map (.int .i64)))]:=List.prefix_append _ _
    have hnew2:=own_new 1 (H2 ++ [some (Blk.mk false (([cells.getD 0 0,cells.getD 1 0]:List Int).map (.int .i64)))]) (([cells.getD 1 0,cells.getD 0 0]:List Int).map (.int .i64)) 2 rfl
    have:=Rule_j10 (show 10 ≤ k by omega) hn hx3 (p:=p + 1) (p0:=p0) (by omega) hp0 (adv2.trans (pf_adv (q1.trans q2))) hb (b2.pf (q1.trans q2)) (kind:=4) (value:=0) (y0:=y0) (y1:=y1) (y2:=y2) (own_reads hnew2) (by simp; omega) (own_lt' hnew2) rfl (by simp) (by simp) (ruleOk_of two2 (by simp [kindOk]))
    have r1:=rdn (pf_reads q1 hc2) (i:=0) (by omega)
    have r2:=rdn (pf_reads q1 hc2) (i:=1) (by omega)
    have r3:=rdn (pf_reads q1 hx2) (i:=(cells.getD 0 0).toNat) (by omega)
    have r4:=rdn (pf_reads q1 hx2) (i:=(cells.getD 1 0).toNat) (by omega)
    simp only [List.map_cons,List.map_nil] at this r1 r2 r3 r4
    simp only [spec_l20Rule.j7,b1,Zo,AV.toI,if_true]
    rw [bf v0,cond_false,bt v1,cond_true]
    simp (disch:=omega) only [dt,df,bt,bf,nt,nf,Za,Zy,Zx,Zt,Zf,Zn,Zz,Zi,Zo,wr,AV.toB,AV.toI,AV.toS,if_true,rdn hc2,r1,r2,r3,r4]
    exact this
   ·have:=Rule_j10 (show 10 ≤ k by omega) hn hx3 (p:=p + 1) (p0:=p0) (by omega) hp0 (adv2.trans (pf_adv q1)) hb (b2.pf q1) (kind:=4) (value:=0) (y0:=y0) (y1:=y1) (y2:=y2) (own_reads hnew) (by simp; omega) (own_lt' hnew) rfl (by simp) (by simp) (ruleOk_of two1 (by simp [kindOk]))
    have r1:=rdn (pf_reads q1 hc2) (i:=0) (by omega)
    have r2:=rdn (pf_reads q1 hc2) (i:=1) (by omega)
    have r3:=rdn (pf_reads q1 hx2) (i:=(cells.getD 0 0).toNat) (by omega)
    have r4:=rdn (pf_reads q1 hx2) (i:=(cells.getD 1 0).toNat) (by omega)
    simp only [List.map_cons,List.map_nil] at this r1 r2 r3 r4
    simp only [spec_l20Rule.j7,b1,Zo,AV.toI,if_true]
    rw [bf v0,cond_false,bt v1,cond_true]
    simp (disch:=omega) only [dt,df,bt,bf,nt,nf,Za,Zy,Zx,Zt,Zf,Zn,Zz,Zi,Zo,wr,AV.toB,AV.toI,AV.toS,if_true,rdn hc2,r1,r2,r3,r4]
    exact this
  by_cases v2:v=2
  ·have hd:=gvs 0 (by omega)
   have hval:0 ≤ mn (n - 1) (mx (g.getD (cells.getD 0 0).toNat 0 - g.getD (cells.getD 1 0).toNat 0) (0 - (g.getD (cells.getD 0 0).toNat 0 - g.getD (cells.getD 1 0).toNat 0)))∧mn (n - 1) (mx (g.getD (cells.getD 0 0).toNat 0 - g.getD (cells.getD 1 0).toNat 0) (0 - (g.getD (cells.getD 0 0).toNat 0 - g.getD (cells.getD 1 0).toNat 0))) < n:=by
    unfold mn mx; repeat' split
    all_goals omega
   have:=Rule_j10 (show 10 ≤ k by omega) hn hx3 (p:=p + 1) (p0:=p0) (by omega) hp0 adv2 hb b2 (kind:=5) (y0:=y0) (y1:=y1) (y2:=y2) ht hcb (by simp only; omega) hcn (by simp; omega) (by simp; omega) (ruleOk_of (hin.take 2) (show kindOk n 5 (mn (n - 1) (mx (g.getD (cells.getD 0 0).toNat 0 - g.getD (cells.getD 1 0).toNat 0) (0 - (g.getD (cells.getD 0 0).toNat 0 - g.getD (cells.getD 1 0).toNat 0)))) (cells.take 2).length=true by
    rw [List.length_take,show min 2 cells.length=2 by omega]; exact kindOk5 hval))
   simp only [spec_l20Rule.j7,b1,Zo,AV.toI,if_true]
   rw [bf v0,cond_false,bf v1,cond_false,bt v2,cond_true]
   simp (disch:=omega) only [dt,df,bt,bf,nt,nf,Za,Zy,Zx,Zt,Zf,Zn,Zz,Zi,Zo,wr,AV.toB,AV.toI,AV.toS,if_true,rdn hc2,rdn hx2]
   rw [ip (by simp; omega),hsl]
   exact this
  by_cases v3:v=3
  ·have:=Rule_j10 (show 10 ≤ k by omega) hn hx3 (p:=p + 1) (p0:=p0) (by omega) hp0 adv2 hb b2 (kind:=1) (value:=0) (y0:=y0) (y1:=y1) (y2:=y2) ht hcb (by simp only; omega) hcn (by simp; omega) (by simp; omega) (ruleOk_of (hin.take 2) (by
    rw [List.length_take,show min 2 cells.length=2 by omega]; unfold kindOk; simp))
   simp only [spec_l20Rule.j7,b1,Zo,AV.toI,if_true]
   rw [bf v0,cond_false,bf v1,cond_false,bf v2,cond_false,bt v3,cond_true]
   simp (disch:=omega) only [dt,df,bt,bf,nt,nf,Za,Zy,Zx,Zt,Zf,Zn,Zz,Zi,Zo,wr,AV.toB,AV.toI,AV.toS,if_true]
   rw [ip (by simp; omega),hsl]
   exact this
  ·simp only [spec_l20Rule.j7,b1,Zo,AV.toI,if_true]
   rw [bf v0,cond_false,bf v1,cond_false,bf v2,cond_false,bf v3,cond_false]
   simp (disch:=omega) only [dt,df,bt,bf,nt,nf,Za,Zy,Zx,Zt,Zf,Zn,Zz,Zi,Zo,wr,AV.toB,AV.toI,AV.toS,if_true,hm]
   exact hsum
 ·by_cases v1:v=1
  ·simp only [spec_l20Rule.j7,b1,Zo,AV.toI,if_true]
   rw [bf v0,cond_false,bt v1,cond_true]
   simp (disch:=omega) only [dt,df,bt,bf,nt,nf,Za,Zy,Zx,Zt,Zf,Zn,Zz,Zi,Zo,wr,AV.toB,AV.toI,AV.toS,if_true,hm]
   exact hsum
  by_cases v2:v=2
  ·simp only [spec_l20Rule.j7,b1,Zo,AV.toI,if_true]
   rw [bf v0,cond_false,bf v1,cond_false,bt v2,cond_true]
   simp (disch:=omega) only [dt,df,bt,bf,nt,nf,Za,Zy,Zx,Zt,Zf,Zn,Zz,Zi,Zo,wr,AV.toB,AV.toI,AV.toS,if_true,hm]
   exact hsum
  by_cases v3:v=3
  ·simp only [spec_l20Rule.j7,b1,Zo,AV.toI,if_true]
   rw [bf v0,cond_false,bf v1,cond_false,bf v2,cond_false,bt v3,cond_true]
   simp (disch:=omega) only [dt,df,bt,bf,nt,nf,Za,Zy,Zx,Zt,Zf,Zn,Zz,Zi,Zo,wr,AV.toB,AV.toI,AV.toS,if_true,hm]
   exact hsum
  ·simp only [spec_l20Rule.j7,b1,Zo,AV.toI,if_true]
   rw [bf v0,cond_false,bf v1,cond_false,bf v2,cond_false,bf v3,cond_false]
   simp (disch:=omega) only [dt,df,bt,bf,nt,nf,Za,Zy,Zx,Zt,Zf,Zn,Zz,Zi,Zo,wr,AV.toB,AV.toI,AV.toS,if_true,hm]
   exact hsum
end Go.Proofs.Ytchliocobgkmbaa.Rp
