/- Texts for the row of the law FnHiddenLines, part 16: the plain machine, the program's functions on it, what they come to. No conditions. -/
import Derived.Test.YtchliocobgkmbaaBuFnHiddenLines15
import Derived.Test.YtchliocobgkmbaaBuFnHiddenLines9
import Derived.Test.YtchliocobgkmbaaBuFnHiddenLines10
import Derived.Test.YtchliocobgkmbaaBuFnHiddenLines12
import Derived.Test.YtchliocobgkmbaaBuFnHiddenLines14
set_option linter.unusedVariables false
set_option linter.unusedSimpArgs false
namespace Go.Proofs.Ytchliocobgkmbaa.Rp
open Go Go.RowKit Go.Proofs.Ytchliocobgkmbaa.Ab
theorem AllIn_pt:∀ (ms ws:List Int),AllIn ms ws ↔ ws.length=ms.length∧∀ i,i < ms.length→ws.getD i 0 ∈ maskVals (ms.getD i 0)
 | [],[]=>by simp [AllIn]
 | [],w :: ws=>by simp [AllIn]
 | m :: ms,[]=>by simp [AllIn]
 | m :: ms,w :: ws=>by
  show (w ∈ maskVals m∧AllIn ms ws) ↔ _
  rw [AllIn_pt ms ws]
  constructor
  ·rintro ⟨h1,h2,h3⟩
   refine ⟨by simpa using h2,fun i hi=>?_⟩
   cases i with
   | zero=>simpa using h1
   | succ i=>simpa using h3 i (by simpa using hi)
  ·rintro ⟨h1,h2⟩
   refine ⟨by simpa using h2 0 (by simp),by simpa using h1,fun i hi=>?_⟩
   simpa using h2 (i + 1) (by simpa using hi)
theorem own_len (masks cells:List Int):(ownOf masks cells).length=cells.length:=by simp [ownOf]
theorem own_at {masks cells:List Int} {i:Nat} (hi:i < cells.length):(ownOf masks cells).getD i 0=masks.getD (cells.getD i 0).toNat 0:=by
 unfold ownOf
 rw [List.getD_eq_getElem?_getD,List.getElem?_map,List.getElem?_eq_getElem hi,List.getD_eq_getElem?_getD (l:=cells),List.getElem?_eq_getElem hi]; rfl
theorem map_at {cells:List Int} {f:Int→Int} {i:Nat} (hi:i < cells.length):(cells.map f).getD i 0=f (cells.getD i 0):=by
 rw [List.getD_eq_getElem?_getD,List.getElem?_map,List.getElem?_eq_getElem hi,List.getD_eq_getElem?_getD (l:=cells),List.getElem?_eq_getElem hi]; rfl
theorem cells_ne {n:Int} {r:V} (h:ruleOkV n r=true) {a b:Nat} (ha:a < r.2.1.length) (hb:b < r.2.1.length) (hab:a ≠ b):(r.2.1.getD a 0).toNat ≠ (r.2.1.getD b 0).toNat:=by
 obtain ⟨c1,_⟩:=ruleOk_cells h
 unfold ruleOkV ruleOk at h
 rw [Bool.and_eq_true] at h
 have hd:∀ a b,a < b→b < r.2.1.length→r.2.1.getD a 0 ≠ r.2.1.getD b 0:=fun a b h1 h2 he=>by
  have:=(cellsOk_at _ _ h.1 b (by omega) (by omega)).2
  rw [← he,← Bool.not_eq_true,List.contains_iff_mem] at this
  apply this
  have:(r.2.1.take b).getD a 0=r.2.1.getD a 0:=by
   rw [List.getD_eq_getElem?_getD,List.getElem?_take,if_pos h1,← List.getD_eq_getElem?_getD]
  rw [← this]
  exact mem_getD (by rw [List.length_take]; omega)
 have p1:=c1 _ (mem_getD ha)
 have p2:=c1 _ (mem_getD hb)
 rcases Nat.lt_or_gt_of_ne hab with e | e
 ·have:=hd a b e hb; omega
 ·have:=hd b a e ha; omega
theorem setAll_at {cells found:List Int}:∀ (j i:Nat) (l:List Int),i + j ≤ cells.length→(∀ a b,a < cells.length→b < cells.length→a ≠ b→(cells.getD a 0).toNat ≠ (cells.getD b 0).toNat)→(∀ a,a < cells.length→(cells.getD a 0).toNat < l.length) →
  (setAll cells l found i j).length=l.length∧(∀ u,i ≤ u→u < i + j→(setAll cells l found i j).getD (cells.getD u 0).toNat 0=found.getD u 0)∧(∀ x,(∀ u,i ≤ u→u < i + j→(cells.getD u 0).toNat ≠ x)→(setAll cells l found i j).getD x 0=l.getD x 0)
 | 0,i,l,_,_,_=>⟨rfl,fun u h1 h2=>by omega,fun x _=>rfl⟩
 | j + 1,i,l,hi,hd,hl=>by
  obtain ⟨a,b,c⟩:=setAll_at (found:=found) j (i + 1) (l.set (cells.getD i 0).toNat (found.getD i 0)) (by omega) hd (fun x hx=>by rw [List.length_set]; exact hl x hx)
  rw [setAll]
  refine ⟨by rw [a,List.length_set],fun u h1 h2=>?_,fun x hx=>?_⟩
  ·by_cases e:u=i
   ·subst e
    rw [c _ (fun w h3 h4=>hd w u (by omega) (by omega) (by omega)),getD_set,if_pos ⟨rfl,hl u (by omega)⟩]
   ·exact b u (by omega) (by omega)
  ·rw [c x (fun u h1 h2=>hx u (by omega) (by omega)),getD_set,if_neg (fun h=>hx i (Nat.le_refl _) (by omega) h.1)]
theorem ruleMasks_S {n:Int} {r:V} {l:List Int} (hr:ruleOkV n r=true) (hl:masksOk n l=true):ruleMasksS n r.1 r.2.2 r.2.1 l=ruleMasksV r.1 r.2.2 (ownOf l r.2.1):=by
 unfold ruleMasksS
 rw [if_pos ⟨by unfold ruleOkV at hr; rw [hr,decide_eq_true (masksOk_iff.1 hl).1]; rfl,hl⟩]
def RS (l:List Int) (r:V) (x v:Nat):Prop:=∃ u,u < r.2.1.length∧(r.2.1.getD u 0).toNat=x∧¬ ∃ ws,AllIn (ownOf l r.2.1) ws∧holdsV r.1 r.2.2 ws=true∧ws.getD u 0=(v:Int)
theorem rule_cells {n:Int} {r:V} {l:List Int} (hr:ruleOkV n r=true) (hl:masksOk n l=true) {u:Nat} (hu:u < r.2.1.length):(r.2.1.getD u 0).toNat < l.length:=by
 obtain ⟨c1,_⟩:=ruleOk_cells hr
 have:=c1 _ (mem_getD hu)
 have:=(masksOk_iff.1 hl).2.2
 omega
theorem ruleStep_sub {n:Int} {r:V} {l:List Int} (hr:ruleOkV n r=true) (hl:masksOk n l=true):Sub l (ruleStep n l r) (RS l r):=by
 obtain ⟨c1,c2,c3,c4⟩:=ruleOk_cells hr
 have hol:=own_len l r.2.1
 have hrm:=ruleMasks_ok (kind:=r.1) (value:=r.2.2) (own:=ownOf l r.2.1) (by omega)
 unfold ruleStep
 rw [ruleMasks_S hr hl]
 obtain ⟨s1,s2,s3⟩:=setAll_at (found:=ruleMasksV r.1 r.2.2 (ownOf l r.2.1)) r.2.1.length 0 l (by omega) (fun a b ha hb=>cells_ne hr ha hb) (fun a ha=>rule_cells hr hl ha)
 have hM:=masks_M hl
 have at1:∀ u,u < r.2.1.length→∀ v:Nat,has ((setAll r.2.1 l (ruleMasksV r.1 r.2.2 (ownOf l r.2.1)) 0 r.2.1.length).getD (r.2.1.getD u 0).toNat 0) v=true ↔ ∃ ws,AllIn (ownOf l r.2.1) ws∧holdsV r.1 r.2.2 ws=true∧ws.getD u 0=(v:Int):=fun u hu v=>by
  rw [s2 u (by omega) (by omega)]
  exact ruleMasks_has (by omega) u v (by omega)
 refine ⟨s1,fun m hm=>?_,fun x v hx=>?_⟩
 ·obtain ⟨i,hi,rfl⟩:=List.getElem_of_mem hm
  have e:(setAll r.2.1 l (ruleMasksV r.1 r.2.2 (ownOf l r.2.1)) 0 r.2.1.length).getD i 0=(setAll r.2.1 l (ruleMasksV r.1 r.2.2 (ownOf l r.2.1)) 0 r.2.1.length)[i]:=by simp [List.getD_eq_getElem?_getD,hi]
  rw [← e]
  by_cases c:∃ u,u < r.2.1.length∧(r.2.1.getD u 0).toNat=i
  ·obtain ⟨u,hu,rfl⟩:=c
   rw [s2 u (by omega) (by omega)]
   exact hrm.1.at u
  ·rw [s3 i (fun u _ h2 h3=>c ⟨u,by omega,h3⟩)]
   exact hM.at i
 ·by_cases c:∃ u,u < r.2.1.length∧(r.2.1.getD u 0).toNat=x
  ·obtain ⟨u,hu,rfl⟩:=c
   rw [at1 u hu v]
   constructor
   ·rintro ⟨ws,h1,h2,h3⟩
    have:=((AllIn_pt _ _).1 h1).2 u (by omega)
    rw [own_at hu,h3] at this
    refine ⟨(mv_has (masks_at hl hx) v).2 this,?_⟩
    rintro ⟨w,hw,he,hn⟩
    have:w=u:=by
     apply Classical.byContradiction
     intro hne
     exact cells_ne hr hw hu hne he
    subst this
    exact hn ⟨ws,h1,h2,h3⟩
   ·rintro ⟨h1,h2⟩
    apply Classical.byContradiction
    intro h3
    exact h2 ⟨u,hu,rfl,h3⟩
  ·rw [s3 x (fun u _ h2 h3=>c ⟨u,by omega,h3⟩)]
   constructor
   ·intro h; exact ⟨h,by rintro ⟨u,hu,he,_⟩; exact c ⟨u,hu,he⟩⟩
   ·intro h; exact h.1
theorem rule_full {n:Int} {g:List Int} (hg:gridOk g n=true) (hf:full g) {r:V} (hr:ruleOkV n r=true) (h:canHoldV n g r=true):holdsV r.1 r.2.2 (r.2.1.map (gv g))=true:=by
 obtain ⟨c1,c2,c3,c4⟩:=ruleOk_cells hr
 have hl:=((gridOk_iff g n).1 hg).2.1
 rw [canHold_iff c3 c2] at h
 obtain ⟨ws,a,b⟩:=h
 rw [AllIn_pt,own_len] at a
 have:ws=r.2.1.map (gv g):=by
  refine ext_getD (by rw [a.1,List.length_map]) fun i hi=>?_
  have hi2:i < r.2.1.length:=by omega
  have h1:=a.2 i hi2
  have hc:=c1 _ (mem_getD hi2)
  rw [own_at hi2,open_vals hg (show (r.2.1.getD i 0).toNat < g.length by omega)] at h1
  rw [map_at hi2]
  exact h1.2 (hf _ (by omega))
 rw [← this]; exact b
theorem rule_sound {n:Int} {r:V} {l g:List Int} (hr:ruleOkV n r=true) (hl:masksOk n l=true) (hg:gridOk g n=true) (hin:InM l g) (hh:holdsV r.1 r.2.2 (r.2.1.map (gv g))=true) {x:Nat} (hx:x < l.length):¬ RS l r x (g.getD x 0).toNat:=by
 rintro ⟨u,hu,rfl,hn⟩
 apply hn
 have hlen:=square_len hl hg
 refine ⟨r.2.1.map (gv g),?_,hh,?_⟩
 ·rw [AllIn_pt,own_len]
  refine ⟨by simp,fun i hi=>?_⟩
  rw [map_at hi,own_at hi]
  exact hin.mem hl hg (by rw [hlen]; exact rule_cells hr hl hi)
 ·rw [map_at hu]
  have:=((gridOk_iff g n).1 hg).2.2 _ (mem_getD (show (r.2.1.getD u 0).toNat < g.length by omega))
  show g.getD (r.2.1.getD u 0).toNat 0=_
  omega
theorem rules_fold {n:Int}:∀ (vs:List V) (l:List Int),(∀ r ∈ vs,ruleOkV n r=true)→masksOk n l=true→masksOk n (vs.foldl (ruleStep n) l)=true∧SubM (vs.foldl (ruleStep n) l) l
 | [],l,_,hl=>⟨hl,SubM.refl l⟩
 | r :: vs,l,hv,hl=>by
  have h1:=ruleStep_sub (hv r (by simp)) hl
  obtain ⟨a,b⟩:=rules_fold vs (ruleStep n l r) (fun q hq=>hv q (List.mem_cons_of_mem _ hq)) (h1.ok hl)
  exact ⟨a,b.trans h1.subM⟩
theorem rules_keep {n:Int} {g:List Int} (hg:gridOk g n=true):∀ (vs:List V) (l:List Int),(∀ r ∈ vs,ruleOkV n r=true∧holdsV r.1 r.2.2 (r.2.1.map (gv g))=true)→masksOk n l=true→InM l g→InM (vs.foldl (ruleStep n) l) g
 | [],l,_,_,h=>h
 | r :: vs,l,hv,hl,h=>by
  have hr:=hv r (by simp)
  have h1:=ruleStep_sub hr.1 hl
  exact rules_keep hg vs (ruleStep n l r) (fun q hq=>hv q (List.mem_cons_of_mem _ hq)) (h1.ok hl) (h1.keeps (square_len hl hg) h fun x hx=>rule_sound hr.1 hl hg h hr.2 hx)
/-! ### All techniques -/
theorem subAll_good {n:Int} {l:List Int} (hl:masksOk n l=true) (P:Nat→Nat→Prop):masksOk n (subAll l P)=true∧SubM (subAll l P) l:=⟨(subAll_ok (masks_M hl) P).ok hl,(subAll_ok (masks_M hl) P).subM⟩
theorem singlesV_good {n:Int} {l:List Int} (hl:masksOk n l=true):masksOk n (singlesV n l)=true∧SubM (singlesV n l) l:=by
 unfold singlesV; rw [if_pos hl]; exact subAll_good hl _
theorem hiddenV_good {n:Int} {l:List Int} (hl:masksOk n l=true):masksOk n (hiddenV n l)=true∧SubM (hiddenV n l) l:=by
 unfold hiddenV; rw [if_pos hl]; exact subAll_good hl _
theorem pairsV_good {n:Int} {l:List Int} (hl:masksOk n l=true):masksOk n (pairsV n l)=true∧SubM (pairsV n l) l:=by
 unfold pairsV; rw [if_pos hl]; exact subAll_good hl _
theorem puzzleV_rules {n:Int} {given:List Int} {vs:List V} (hp:puzzleV n given vs=true):∀ r ∈ vs,ruleOkV n r=true:=List.all_eq_true.1 (puzzleV_grid hp).2
theorem rulesV_good {n:Int} {given:List Int} {vs:List V} (hp:puzzleV n given vs=true) {l:List Int} (hl:masksOk n l=true):masksOk n (rulesV n given vs l)=true∧SubM (rulesV n given vs l) l:=by
 unfold rulesV; rw [if_pos ⟨hp,hl⟩]; exact rules_fold vs l (puzzleV_rules hp) hl
theorem singlesV_keeps {n:Int} {l g:List Int} (hl:masksOk n l=true) (hg:g ∈ squares n) (h:InM l g):InM (singlesV n l) g:=by
 unfold singlesV; rw [if_pos hl]
 exact (subAll_ok (masks_M hl) _).keeps (square_len hl (squares_pos (masksOk_iff.1 hl).1 hg).2.1) h fun j hj hp=>singles_sound hl hg h hj hp rfl
theorem hiddenV_keeps {n:Int} {l g:List Int} (hl:masksOk n l=true) (hg:g ∈ squares n) (h:InM l g):InM (hiddenV n l) g:=by
 unfold hiddenV; rw [if_pos hl]
 exact (subAll_ok (masks_M hl) _).keeps (square_len hl (squares_pos (masksOk_iff.1 hl).1 hg).2.1) h fun j hj hp=>hidden_sound hl hg h hj hp rfl
theorem pairsV_keeps {n:Int} {l g:List Int} (hl:masksOk n l=true) (hg:g ∈ squares n) (h:InM l g):InM (pairsV n l) g:=by
 unfold pairsV; rw [if_pos hl]
 exact (subAll_ok (masks_M hl) _).keeps (square_len hl (squares_pos (masksOk_iff.1 hl).1 hg).2.1) h fun j hj hp=>pairs_sound hl hg h hj hp rfl
theorem sol_rules {n:Int} {given:List Int} {vs:List V} (hp:puzzleV n given vs=true) {g:List Int} (hg:g ∈ allSols n given vs):∀ r ∈ vs,ruleOkV n r=true∧holdsV r.1 r.2.2 (r.2.1.map (gv g))=true:=fun r hr=>by
 have hok:=puzzleV_rules hp r hr
 rw [mem_allSols hp] at hg
 refine ⟨hok,rule_full hg.1 hg.2.2.1 hok ?_⟩
 have:=hg.2.2.2
 unfold fitsV at this
 simp only [Bool.and_eq_true] at this
 exact List.all_eq_true.1 this.2.1 r hr
theorem rulesV_keeps {n:Int} {given:List Int} {vs:List V} (hp:puzzleV n given vs=true) {l g:List Int} (hl:masksOk n l=true) (hg:g ∈ allSols n given vs) (h:InM l g):InM (rulesV n given vs l) g:=by
 unfold rulesV; rw [if_pos ⟨hp,hl⟩]
 exact rules_keep (squares_pos (masksOk_iff.1 hl).1 (sol_square hp hg)).2.1 vs l (sol_rules hp hg) hl h
theorem narrowV_cases {n:Int} {given:List Int} {vs:List V} (hp:puzzleV n given vs=true) {l:List Int} (hl:masksOk n l=true):narrowV n given vs l 1=singlesV n l∧narrowV n given vs l 2=hiddenV n l∧narrowV n given vs l 3=pairsV n l∧narrowV n given vs l 4=rulesV n given vs l:=by
 refine ⟨?_,?_,?_,?_⟩ <;> (unfold narrowV; rw [if_pos ⟨hp,hl⟩]; simp)
theorem narrow_good {n:Int} {given:List Int} {vs:List V} (hp:puzzleV n given vs=true) {most:Nat} (hm:most ≤ 4):Good (narrowV n given vs) n most:=fun l t hl h1 h2=>by
 obtain ⟨c1,c2,c3,c4⟩:=narrowV_cases hp hl
 have:t=1 ∨ t=2 ∨ t=3 ∨ t=4:=by omega
 rcases this with rfl | rfl | rfl | rfl
 ·rw [c1]; exact singlesV_good hl
 ·rw [c2]; exact hiddenV_good hl
 ·rw [c3]; exact pairsV_good hl
 ·rw [c4]; exact rulesV_good hp hl
theorem narrow_keeps {n:Int} {given:List Int} {vs:List V} (hp:puzzleV n given vs=true) {l g:List Int} (hl:masksOk n l=true) (hg:g ∈ allSols n given vs) (h:InM l g) {t:Int} (h1:1 ≤ t) (h2:t ≤ 4):InM (narrowV n given vs l t) g:=by
 obtain ⟨c1,c2,c3,c4⟩:=narrowV_cases hp hl
 have hs:=sol_square hp hg
 have:t=1 ∨ t=2 ∨ t=3 ∨ t=4:=by omega
 rcases this with rfl | rfl | rfl | rfl
 ·rw [c1]; exact singlesV_keeps hl hs h
 ·rw [c2]; exact hiddenV_keeps hl hs h
 ·rw [c3]; exact pairsV_keeps hl hs h
 ·rw [c4]; exact rulesV_keeps hp hl hg h
theorem run_keeps {n:Int} {given:List Int} {vs:List V} (hp:puzzleV n given vs=true) {most:Nat} (hm:most ≤ 4) {g:List Int} (hg:g ∈ allSols n given vs) {l:List Int} (hl:masksOk n l=true):InM l g→InM (lastV (runS (narrowV n given vs) most l) l) g:=by
 refine runS_ind (narrow_good hp hm) (C:=fun l r=>InM l g→InM (lastV r l) g) ?_ ?_ (total l + 1) l hl (by omega)
 ·intro l hl e h; exact h
 ·intro l t l' hl hl' hs ht e ih h
  obtain ⟨h1,h2,_⟩:=next_some _ _ e
  refine ih ?_
  rw [h2]
  exact narrow_keeps hp hl hg h h1.1 (by omega)
def peerB (n line a b:Nat):Bool:=!(decide (2 ≤ n) && (decide (line < 2 * n) && (decide (a < n) && (decide (b < n) && !(a == b))))) || (!(lc n line a == lc n line b) && (lc n line a / n == lc n line b / n || lc n line a % n == lc n line b % n))
theorem tab_peer:∀ n:Nat,n < 5→∀ line:Nat,line < 8→∀ a:Nat,a < 4→∀ b:Nat,b < 4→peerB n line a b=true:=by decide +kernel
theorem lc_peer {n:Int} (hn:2 ≤ n∧n ≤ 4) {line a b:Nat} (hl:(line:Int) < 2 * n) (ha:(a:Int) < n) (hb:(b:Int) < n) (hab:a ≠ b):peer n.toNat (lc n line a) (lc n line b):=by
 have:=tab_peer n.toNat (by omega) line (by omega) a (by omega) b (by omega)
 unfold peerB at this
 rw [decide_eq_true (show 2 ≤ n.toNat by omega),decide_eq_true (show line < 2 * n.toNat by omega),decide_eq_true (show a < n.toNat by omega),decide_eq_true (show b < n.toNat by omega),show (a == b)=false by simpa using hab,show ((n.toNat:Nat):Int)=n by omega] at this
 simp only [Zx,Za,Zy,Bool.false_or,Bool.and_eq_true,Bool.not_eq_true',beq_eq_false_iff_ne,Bool.or_eq_true,beq_iff_eq] at this
 exact this
theorem PQ2_symm {n:Int} {l:List Int} {line i j x w:Nat} (h:PQ2 n l line i j x w):PQ2 n l line j i x w:=by
 obtain ⟨h1,h2,u,h3,h4,h5,h6,h7⟩:=h
 exact ⟨h1.symm,by rw [← h1]; exact h2,u,h3,h5,h4,h6,by rw [← h1]; exact h7⟩
theorem iPairs_l13 (rec:Rec) (k:Nat) (L0:Sl→Int→Sl→Int→Int→Hp→An) (L1:Sl→Int→Sl→Sl→Int→Int→Sl→Int→Int→Hp→An) (L5:Sl→Int→Sl→Sl→Int→Int→Int→Sl→Int→Int→Sl→Int→Int→Hp→An) {H0 Hb:Hp} {ms t cs x28 x38:Sl} {l:List Int} {n x21 x22 x29 x30 x39 x40:Int} {line i jj:Nat} (hmk:masksOk n l=true) (hm:Reads .i64 H0 ms l) (hline:(line:Int) < 2 * n) (htb:t.blk < Hb.length) (hi:(i:Int) < n) (hj:(jj:Int) < n) :
  ∀ (j q fuel:Nat) (H:Hp) (a:List Int) (P:Nat→Nat→Prop),(q:Int) + j=n→j < fuel→H0 <+: H→Own 1 Hb H cs ((lineCells n line).map (.int .i64))→Own 1 H0 H t (a.map (.int .i64))→Sub l a P →
   ∃ H' a',impl_NarrowPairs.l13 rec k L0 L1 L5 fuel ms n t cs (lc n line i:Int) (lc n line jj:Int) x21 x22 x28 x29 x30 x38 x39 x40 cs n q H=L5 ms n t cs (lc n line i:Int) x21 x22 x28 x29 x30 x38 x39 (IntKind.i64.wrap (x40 + 1)) H'∧H0 <+: H'∧Own 1 H0 H' t (a'.map (.int .i64))∧Adv t.blk H H'∧Sub l a' (fun x w=>P x w ∨ ∃ u:Nat,q ≤ u∧(u:Int) < n∧u ≠ i∧u ≠ jj∧x=lc n line u∧has (l.getD (lc n line i) 0) w=true):=by
 obtain ⟨l4,l16,lN,hN,n2,n4⟩:=masks_len hmk
 have hll:=line_len hmk hline
 have hn:2 ≤ n∧n ≤ 4:=(masksOk_iff.1 hmk).1
 have hsz:=(masksOk_iff.1 hmk).2.2
 have hM:=masks_M hmk
 have hml:=hm.len
 intro j
 induction j with
 | zero=>
  intro q fuel H a P hq hf hp hc ho hs
  obtain ⟨fuel,rfl⟩:=Zs fuel (by omega)
  refine ⟨H,a,?_,hp,ho,Adv.refl _ _,hs.congr fun x w hx=>⟨.inl,by rintro (h | ⟨u,h1,h2,_⟩); exact h; omega⟩⟩
  simp (disch:=omega) only [impl_NarrowPairs.l13,impl_NarrowPairs.j11,df,Zf]
 | succ j ih=>
  intro q fuel H a P hq hf hp hc ho hs
  obtain ⟨fuel,rfl⟩:=Zs fuel (by omega)
  have hal:=hs.len
  have htl:t.len=a.length:=by have:=ho.len; simpa using this
  have hcl:=(own_reads hc).len
  have cq:=lc_lt hn hline (show (q:Int) < n by omega)
  have ci:=lc_lt hn hline hi
  have hrq:=rdn (own_reads hc) (i:=q) (by omega)
  rw [← cq.2] at hrq
  have hrm:=pf_reads hp hm
  have inj:∀ u:Nat,(u:Int) < n→u ≠ q→lc n line q ≠ lc n line u:=fun u hu hne=>(lc_peer hn hline (show (q:Int) < n by omega) hu (fun e=>hne e.symm)).1
  by_cases c:q ≠ i∧q ≠ jj
  ·have n1:=inj i hi (fun e=>c.1 e.symm)
   have n2:=inj jj hj (fun e=>c.2 e.symm)
   obtain ⟨H1,d1,d2,d3,d4⟩:=own_set1 ho hp (lc n line q) (by omega) (mSub (a.getD (lc n line q) 0) (l.getD (lc n line i) 0))
   obtain ⟨H',a',e1,e2,e3,e4,e5⟩:=ih (q + 1) fuel H1 _ _ (by omega) (by omega) d2 (d4.own htb hc) d3 (hs.step _ (by omega) (hM.at (lc n line i)))
   push_cast at e1
   refine ⟨H',a',?_,e2,e3,d4.trans e4,e5.congr fun x w hx=>?_⟩
   ·simp (disch:=omega) only [impl_NarrowPairs.l13,impl_NarrowPairs.j14,impl_NarrowPairs.j15,impl_NarrowPairs.j16,impl_NarrowPairs.j18,impl_NarrowPairs.j19,dt,nt,Za,Zt,Zn,Zo,hrq,rdn (own_reads ho),rdn hrm,m_sub (hs.ms.at _) (hM.at _),d1,wr (n:=(q:Int) + 1),e1]
   ·constructor
    ·rintro ((h | ⟨h1,h2⟩) | ⟨u,h1,h2⟩)
     ·exact .inl h
     ·exact .inr ⟨q,Nat.le_refl _,by omega,c.1,c.2,h1,h2⟩
     ·exact .inr ⟨u,by omega,h2⟩
    ·rintro (h | ⟨u,h1,h2,h3,h4,h5,h6⟩)
     ·exact .inl (.inl h)
     ·by_cases e:u=q
      ·subst e; exact .inl (.inr ⟨h5,h6⟩)
      ·exact .inr ⟨u,by omega,h2,h3,h4,h5,h6⟩
  ·obtain ⟨H',a',e1,e2,e3,e4,e5⟩:=ih (q + 1) fuel H a P (by omega) (by omega) hp hc ho hs
   push_cast at e1
   refine ⟨H',a',?_,e2,e3,e4,e5.congr fun x w hx=>?_⟩
   ·by_cases c1':q=i
    ·subst c1'
     simp (disch:=omega) only [impl_NarrowPairs.l13,impl_NarrowPairs.j14,impl_NarrowPairs.j15,impl_NarrowPairs.j17,impl_NarrowPairs.j18,impl_NarrowPairs.j19,dt,nf,Za,Zt,Zf,Zn,Zo,hrq,wr (n:=(q:Int) + 1),e1]
    ·have hqj:q=jj:=by omega
     subst hqj
     have n1:=inj i hi (fun e=>c1' e.symm)
     simp (disch:=omega) only [impl_NarrowPairs.l13,impl_NarrowPairs.j14,impl_NarrowPairs.j15,impl_NarrowPairs.j16,impl_NarrowPairs.j18,impl_NarrowPairs.j19,dt,nt,nf,Za,Zt,Zf,Zn,Zo,hrq,wr (n:=(q:Int) + 1),e1]
   ·constructor
    ·rintro (h | ⟨u,h1,h2⟩)
     ·exact .inl h
     ·exact .inr ⟨u,by omega,h2⟩
    ·rintro (h | ⟨u,h1,h2,h3,h4,h5,h6⟩)
     ·exact .inl h
     ·refine .inr ⟨u,?_,h2,h3,h4,h5,h6⟩
      by_cases e:u=q
      ·subst e; exact absurd ⟨h3,h4⟩ c
      ·omega
theorem iPairs_l5 {k:Nat} (hk:2000000 ≤ k) (L0:Sl→Int→Sl→Int→Int→Hp→An) (L1:Sl→Int→Sl→Sl→Int→Int→Sl→Int→Int→Hp→An) {H0 Hb:Hp} {ms t cs x28:Sl} {l:List Int} {n x21 x22 x29 x30:Int} {line i:Nat} (hmk:masksOk n l=true) (hm:Reads .i64 H0 ms l) (hline:(line:Int) < 2 * n) (htb:t.blk < Hb.length) (hi:(i:Int) < n) :
  ∀ (j p fuel:Nat) (H:Hp) (a:List Int) (P:Nat→Nat→Prop),((i + 1 + p:Nat):Int) + j=n→j < fuel→H0 <+: H→Own 1 Hb H cs ((lineCells n line).map (.int .i64))→Own 1 H0 H t (a.map (.int .i64))→Sub l a P →
   ∃ H' a',impl_NarrowPairs.l5 (callF Ab.PP orc k) k L0 L1 fuel ms n t cs (lc n line i:Int) x21 x22 x28 x29 x30 (Sl.mk cs.nil cs.blk (cs.off + (i + 1)) (n.toNat - (i + 1))) ((n.toNat - (i + 1):Nat):Int) p H=L1 ms n t cs x21 x22 x28 x29 (IntKind.i64.wrap (x30 + 1)) H'∧H0 <+: H'∧Own 1 H0 H' t (a'.map (.int .i64))∧Own 1 Hb H' cs ((lineCells n line).map (.int .i64))∧Sub l a' (fun x w=>P x w ∨ ∃ u:Nat,i + 1 + p ≤ u∧(u:Int) < n∧PQ2 n l line i u x w):=by
 obtain ⟨l4,l16,lN,hN,n2,n4⟩:=masks_len hmk
 have hll:=line_len hmk hline
 have hn:2 ≤ n∧n ≤ 4:=(masksOk_iff.1 hmk).1
 have hsz:=(masksOk_iff.1 hmk).2.2
 have hml:=hm.len
 intro j
 induction j with
 | zero=>
  intro p fuel H a P hq hf hp hc ho hs
  obtain ⟨fuel,rfl⟩:=Zs fuel (by omega)
  refine ⟨H,a,?_,hp,ho,hc,hs.congr fun x w hx=>⟨.inl,by rintro (h | ⟨u,h1,h2,_⟩); exact h; omega⟩⟩
  simp (disch:=omega) only [impl_NarrowPairs.l5,impl_NarrowPairs.j7,df,Zf]
 | succ j ih=>
  intro p fuel H a P hq hf hp hc ho hs
  obtain ⟨fuel,rfl⟩:=Zs fuel (by omega)
  have hcl:=(own_reads hc).len
  have ci:=lc_lt hn hline hi
  have cb:=lc_lt hn hline (show ((i + 1 + p:Nat):Int) < n by omega)
  have hrs:=reads_from (own_reads hc) (i + 1) (by omega)
  rw [hll] at hrs
  have hrp:=rdn hrs (i:=p) (by simp; omega)
  have edr:((lineCells n line).drop (i + 1)).getD p 0=(lineCells n line).getD (i + 1 + p) 0:=by
   rw [List.getD_eq_getElem?_getD,List.getElem?_drop,← List.getD_eq_getElem?_getD]
  rw [edr,← cb.2] at hrp
  have hrm:=pf_reads hp hm
  have hi2:lc n line i < l.length:=by omega
  have hb2:lc n line (i + 1 + p) < l.length:=by omega
  have h1:=OnesCount_ok (show 2 ≤ k by omega) (masks_at hmk hi2) H
  by_cases ce:l.getD (lc n line i) 0=l.getD (lc n line (i + 1 + p)) 0
  ·by_cases c3:cntM (l.getD (lc n line i) 0)=2
   ·obtain ⟨H2,a',b1,b2,b3,b4,b5⟩:=iPairs_l13 (callF Ab.PP orc k) k L0 L1 (impl_NarrowPairs.l5 (callF Ab.PP orc k) k L0 L1 fuel) (x21:=x21) (x22:=x22) (x28:=x28) (x29:=x29) (x30:=x30) (x38:=Sl.mk cs.nil cs.blk (cs.off + (i + 1)) (n.toNat - (i + 1))) (x39:=((n.toNat - (i + 1):Nat):Int)) (x40:=(p:Int)) hmk hm hline htb hi (jj:=i + 1 + p) (by omega) n.toNat 0 k H a P (by omega) (by omega) hp hc ho hs
    have hc2:=b4.own htb hc
    obtain ⟨H',a'',d1,d2,d3,d4,d5⟩:=ih (p + 1) fuel H2 a' _ (by omega) (by omega) b2 hc2 b3 b5
    push_cast at d1
    refine ⟨H',a'',?_,d2,d3,d4,d5.congr fun x w hx=>?_⟩
    ·simp only [Int.natCast_zero] at b1
     rw [← hN] at *
     have hlen:(cs.len:Int)=n:=by omega
     have hc2':((cntM (l.getD (lc n line i) 0):Nat):Int)=2:=by omega
     simp (disch:=omega) only [impl_NarrowPairs.l5,impl_NarrowPairs.j6,impl_NarrowPairs.j9,impl_NarrowPairs.j10,impl_NarrowPairs.j12,dt,nf,Za,Zt,Zf,Zn,Zo,AV.toI,if_true,hrp,rdn hrm,h1,hc2',hlen,b1,wr (n:=(p:Int) + 1),d1]
    ·have ht:two (l.getD (lc n line i) 0)=true:=by unfold two; unfold cntM at c3; rw [c3]; rfl
     constructor
     ·rintro ((h | ⟨u,h1,h2,h3,h4,h5,h6⟩) | ⟨u,h1,h2⟩)
      ·exact .inl h
      ·exact .inr ⟨i + 1 + p,Nat.le_refl _,by omega,ce,ht,u,h2,h3,h4,h5,h6⟩
      ·exact .inr ⟨u,by omega,h2⟩
     ·rintro (h | ⟨u,h1,h2,h3,h4,z,h5,h6,h7,h8,h9⟩)
      ·exact .inl (.inl h)
      ·by_cases e:u=i + 1 + p
       ·subst e; exact .inl (.inr ⟨z,by omega,h5,h6,h7,h8,h9⟩)
       ·exact .inr ⟨u,by omega,h2,h3,h4,z,h5,h6,h7,h8,h9⟩
   ·obtain ⟨H',a'',d1,d2,d3,d4,d5⟩:=ih (p + 1) fuel H a P (by omega) (by omega) hp hc ho hs
    push_cast at d1
    refine ⟨H',a'',?_,d2,d3,d4,d5.congr fun x w hx=>?_⟩
    ·have hc2':((cntM (l.getD (lc n line i) 0):Nat):Int) ≠ 2:=by omega
     simp (disch:=omega) only [impl_NarrowPairs.l5,impl_NarrowPairs.j6,impl_NarrowPairs.j9,impl_NarrowPairs.j10,impl_NarrowPairs.j11,dt,nf,nt hc2',Za,Zt,Zf,Zn,Zo,AV.toI,if_true,hrp,rdn hrm,h1,wr (n:=(p:Int) + 1),d1]
    ·have ht:¬ two (l.getD (lc n line i) 0)=true:=by unfold two; rw [beq_iff_eq]; exact c3
     constructor
     ·rintro (h | ⟨u,h1,h2⟩)
      ·exact .inl h
      ·exact .inr ⟨u,by omega,h2⟩
     ·rintro (h | ⟨u,h1,h2,h3,h4,h5⟩)
      ·exact .inl h
      ·exact absurd h4 ht
  ·obtain ⟨H',a'',d1,d2,d3,d4,d5⟩:=ih (p + 1) fuel H a P (by omega) (by omega) hp hc ho hs
   push_cast at d1
   refine ⟨H',a'',?_,d2,d3,d4,d5.congr fun x w hx=>?_⟩
   ·simp (disch:=omega) only [impl_NarrowPairs.l5,impl_NarrowPairs.j6,impl_NarrowPairs.j8,impl_NarrowPairs.j10,impl_NarrowPairs.j11,dt,nt ce,Za,Zt,Zf,Zn,Zo,hrp,rdn hrm,wr (n:=(p:Int) + 1),d1]
   ·constructor
    ·rintro (h | ⟨u,h1,h2⟩)
     ·exact .inl h
     ·exact .inr ⟨u,by omega,h2⟩
    ·rintro (h | ⟨u,h1,h2,h3,h4⟩)
     ·exact .inl h
     ·refine .inr ⟨u,?_,h2,h3,h4⟩
      by_cases e:u=i + 1 + p
      ·subst e; exact absurd h3 ce
      ·omega
theorem iPairs_l1 {k:Nat} (hk:2000000 ≤ k) (L0:Sl→Int→Sl→Int→Int→Hp→An) {H0 Hb:Hp} {ms t cs:Sl} {l:List Int} {n x21 x22:Int} {line:Nat} (hmk:masksOk n l=true) (hm:Reads .i64 H0 ms l) (hline:(line:Int) < 2 * n) (htb:t.blk < Hb.length) :
  ∀ (j i fuel:Nat) (H:Hp) (a:List Int) (P:Nat→Nat→Prop),(i:Int) + j=n→j < fuel→H0 <+: H→Own 1 Hb H cs ((lineCells n line).map (.int .i64))→Own 1 H0 H t (a.map (.int .i64))→Sub l a P →
   ∃ H' a',impl_NarrowPairs.l1 (callF Ab.PP orc k) k L0 fuel ms n t cs x21 x22 cs n i H=L0 ms n t x21 (IntKind.i64.wrap (x22 + 1)) H'∧H0 <+: H'∧Own 1 H0 H' t (a'.map (.int .i64))∧Sub l a' (fun x w=>P x w ∨ ∃ z u:Nat,i ≤ z∧z < u∧(u:Int) < n∧PQ2 n l line z u x w):=by
 obtain ⟨l4,l16,lN,hN,n2,n4⟩:=masks_len hmk
 have hll:=line_len hmk hline
 have hn:2 ≤ n∧n ≤ 4:=(masksOk_iff.1 hmk).1
 intro j
 induction j with
 | zero=>
  intro i fuel H a P hq hf hp hc ho hs
  obtain ⟨fuel,rfl⟩:=Zs fuel (by omega)
  refine ⟨H,a,?_,hp,ho,hs.congr fun x w hx=>⟨.inl,by rintro (h | ⟨z,u,h1,h2,h3,_⟩); exact h; omega⟩⟩
  simp (disch:=omega) only [impl_NarrowPairs.l1,impl_NarrowPairs.j4,df,Zf]
 | succ j ih=>
  intro i fuel H a P hq hf hp hc ho hs
  obtain ⟨fuel,rfl⟩:=Zs fuel (by omega)
  have hi:(i:Int) < n:=by omega
  have hcl:=(own_reads hc).len
  have ci:=lc_lt hn hline hi
  have hrq:=rdn (own_reads hc) (i:=i) (by omega)
  rw [← ci.2] at hrq
  obtain ⟨H1,a',b1,b2,b3,b4,b5⟩:=iPairs_l5 hk L0 (impl_NarrowPairs.l1 (callF Ab.PP orc k) k L0 fuel) (x21:=x21) (x22:=x22) (x28:=cs) (x29:=n) (x30:=(i:Int)) hmk hm hline htb hi (n.toNat - (i + 1)) 0 k H a P (by omega) (by omega) hp hc ho hs
  obtain ⟨H',a'',d1,d2,d3,d4⟩:=ih (i + 1) fuel H1 a' _ (by omega) (by omega) b2 b4 b3 b5
  push_cast at d1
  refine ⟨H',a'',?_,d2,d3,d4.congr fun x w hx=>?_⟩
  ·have hlen:(cs.len:Int)=n:=by omega
   have w1:IntKind.i64.wrap ((i:Int) + 1)=(i:Int) + 1:=wr (by omega) (by omega)
   have esl:(Sl.mk cs.nil cs.blk (cs.off + ((i:Int) + 1).toNat * 1) (n - ((i:Int) + 1)).toNat)=Sl.mk cs.nil cs.blk (cs.off + (i + 1)) (n.toNat - (i + 1)):=by
    congr 1 <;> omega
   have hq:((0:Int) ≤ (i:Int) + 1∧(i:Int) + 1 ≤ n∧n ≤ n∧True)∧0 < 1∧True:=⟨⟨by omega,by omega,by omega,trivial⟩,by omega,trivial⟩
   simp only [Int.natCast_zero] at b1
   simp (disch:=omega) only [impl_NarrowPairs.l1,impl_NarrowPairs.j3,dt,Za,Zt,Zn,Zo,hrq,hlen,w1,esl,ip hq]
   rw [show (n - ((i:Int) + 1)).toNat=n.toNat - (i + 1) by omega,b1,w1,d1]
  ·constructor
   ·rintro ((h | ⟨u,h1,h2,h3⟩) | ⟨z,u,h1,h2⟩)
    ·exact .inl h
    ·exact .inr ⟨i,u,Nat.le_refl _,by omega,h2,h3⟩
    ·exact .inr ⟨z,u,by omega,h2⟩
   ·rintro (h | ⟨z,u,h1,h2,h3,h4⟩)
    ·exact .inl (.inl h)
    ·by_cases e:z=i
     ·subst e; exact .inl (.inr ⟨u,by omega,h3,h4⟩)
     ·exact .inr ⟨z,u,by omega,h2,h3,h4⟩
theorem iPairs_l0 {k:Nat} (hk:2000000 ≤ k) {H0:Hp} {ms t:Sl} {l:List Int} {n:Int} (hmk:masksOk n l=true) (hm:Reads .i64 H0 ms l) :
  ∀ (j line fuel:Nat) (H:Hp) (a:List Int) (P:Nat→Nat→Prop),(line:Int) + j=2 * n→j < fuel→H0 <+: H→Own 1 H0 H t (a.map (.int .i64))→Sub l a P →
   ∃ H' a',impl_NarrowPairs.l0 (callF Ab.PP orc k) k fuel ms n t (2 * n) line H=some (.sl 1 t,H')∧H0 <+: H'∧Own 1 H0 H' t (a'.map (.int .i64))∧Sub l a' (fun x w=>P x w ∨ ∃ ln z u:Nat,line ≤ ln∧(ln:Int) < 2 * n∧z < u∧(u:Int) < n∧PQ2 n l ln z u x w):=by
 obtain ⟨l4,l16,lN,hN,n2,n4⟩:=masks_len hmk
 have hn:2 ≤ n∧n ≤ 4:=(masksOk_iff.1 hmk).1
 intro j
 induction j with
 | zero=>
  intro line fuel H a P hl hf hp ho hs
  obtain ⟨fuel,rfl⟩:=Zs fuel (by omega)
  refine ⟨H,a,?_,hp,ho,hs.congr fun x w hx=>⟨.inl,by rintro (h | ⟨ln,z,u,h1,h2,_⟩); exact h; omega⟩⟩
  simp (disch:=omega) only [impl_NarrowPairs.l0,impl_NarrowPairs.j2,df,Zf]
 | succ j ih=>
  intro line fuel H a P hl hf hp ho hs
  obtain ⟨fuel,rfl⟩:=Zs fuel (by omega)
  have hline:(line:Int) < 2 * n:=by omega
  obtain ⟨cs,H1,a1,a2,a3⟩:=implLineCells_own hk hn (line:=(line:Int)) ⟨by omega,hline⟩ H
  have hcl:=(own_reads a3).len
  have hll:=line_len hmk hline
  obtain ⟨H2,a',b1,b2,b3,b4⟩:=iPairs_l1 hk (impl_NarrowPairs.l0 (callF Ab.PP orc k) k fuel) (x21:=2 * n) (x22:=(line:Int)) hmk hm hline (own_lt' ho) n.toNat 0 k H1 a P (by omega) (by omega) (hp.trans a2) a3 (own_pf ho a2) hs
  obtain ⟨H',a'',d1,d2,d3,d4⟩:=ih (line + 1) fuel H2 a' _ (by omega) (by omega) b2 b3 b4
  push_cast at d1
  refine ⟨H',a'',?_,d2,d3,d4.congr fun x w hx=>?_⟩
  ·simp only [Int.natCast_zero] at b1
   have hlen:(cs.len:Int)=n:=by omega
   simp (disch:=omega) only [impl_NarrowPairs.l0,dt,Zt,Zo,AV.toS,if_true,a1,hlen,b1,wr (n:=(line:Int) + 1),d1]
  ·constructor
   ·rintro ((h | ⟨z,u,h1,h2,h3,h4⟩) | ⟨ln,z,u,h1,h2⟩)
    ·exact .inl h
    ·exact .inr ⟨line,z,u,Nat.le_refl _,by omega,h2,h3,h4⟩
    ·exact .inr ⟨ln,z,u,by omega,h2⟩
   ·rintro (h | ⟨ln,z,u,h1,h2,h3,h4,h5⟩)
    ·exact .inl (.inl h)
    ·by_cases e:ln=line
     ·subst e; exact .inl (.inr ⟨z,u,by omega,h3,h4,h5⟩)
     ·exact .inr ⟨ln,z,u,by omega,h2,h3,h4,h5⟩
theorem implNarrowPairs_ok {k:Nat} (hk:2000010 ≤ k) {H:Hp} {ms:Sl} {l:List Int} {n:Int} (hb:-1 ≤ n∧n ≤ 5) (hm:Reads .i64 H ms l) (hnn:ms.nil=false) (hl:l.length ≤ 1000) (hr:∀ m ∈ l,-2 ≤ m∧m ≤ 63) :
  ∃ t H',callF Ab.PP orc k impl_NarrowPairs.id [.sl 1 ms,.int .i64 n] H=some (.sl 1 t,H')∧H <+: H'∧NilOr H H' t (pairsV n l):=by
 obtain ⟨k,rfl⟩:=Zs k (by omega)
 rw [impl_NarrowPairs.call]
 have h1:=implMasksValid_ok (show 2000000 ≤ k by omega) hb hm hl hr
 have hml:=hm.len
 unfold pairsV
 cases hv:masksOk n l with
 | false=>
  rw [hv] at h1
  rw [iN (by simp)]
  exact ⟨Sl.none,H,by simp only [impl_NarrowPairs.f,dt,df,bt,bf,nt,nf,Za,Zy,Zx,Zt,Zf,Zn,Zz,Zi,Zo,wr,AV.toB,AV.toI,AV.toS,if_true,h1],(List.prefix_refl _),.inl ⟨rfl,rfl⟩⟩
 | true=>
  rw [hv] at h1
  rw [ip rfl]
  obtain ⟨l4,l16,lN,hN,n2,n4⟩:=masks_len hv
  have hM:=masks_M hv
  have h2:=Clone_own (show 1 ≤ k by omega) hm hnn hl
  have hnew:=own_new 1 H (l.map (.int .i64)) l.length (by simp)
  obtain ⟨H',a',b1,b2,b3,b4⟩:=iPairs_l0 (show 2000000 ≤ k by omega) hv hm (2 * n).toNat 0 k (H ++ [some (Blk.mk false (l.map (.int .i64)))]) l _ (by omega) (by omega) (List.prefix_append _ _) hnew (Sub.refl hM)
  have e:a'=subAll l (PQ n l):=(b4.congr fun x w hx=>(show _ ↔ PQ n l x w from by
   rw [PQ_iff]
   constructor
   ·rintro (h | ⟨ln,z,u,_,h1,h2,h3,h4⟩)
    ·exact h.elim
    ·exact ⟨ln,u,z,h1,h3,h2,PQ2_symm h4⟩
   ·rintro ⟨ln,i,u,h1,h2,h3,h4⟩
    exact .inr ⟨ln,u,i,by omega,h1,h3,h2,PQ2_symm h4⟩)).eq hM
  subst e
  refine ⟨_,H',?_,b2,.inr b3⟩
  simp only [Int.natCast_zero] at b1
  simp (disch:=omega) only [impl_NarrowPairs.f,dt,df,Zy,Zf,AV.toB,AV.toS,if_true,Zo,h1,h2,wr (n:=2 * n),b1]
theorem val_drop (rs:List R) (i:Nat) (h:i < rs.length):(rs.drop i).map R.val=rs[i].val :: (rs.drop (i + 1)).map R.val:=by
 rw [List.drop_eq_getElem_cons h]; rfl
def seenC (seen:List Int):List AV:=(List.range 5).map fun (v:Nat)=>.bool (seen.contains (v:Int))
theorem seen_set (seen:List Int) (v:Nat) (hv:v < 5):(seenC seen).take v ++ [.bool true] ++ (seenC seen).drop (v + 1)=seenC ((v:Int) :: seen):=by
 apply List.ext_getElem?
 intro i
 have h0:(seenC seen).length=5:=by simp [seenC]
 have e:(seenC seen).take v ++ [.bool true] ++ (seenC seen).drop (v + 1)=(seenC seen).set v (.bool true):=by
  rw [List.set_eq_take_append_cons_drop,if_pos (by omega)]; simp
 rw [e]
 by_cases hi:i=v
 ·subst hi
  rw [List.getElem?_set_self (by omega)]
  simp [seenC,hv]
 ·rw [List.getElem?_set_ne (by omega)]
  by_cases h5:i < 5
  ·simp [seenC,h5,hi]
   intro e'; omega
  ·rw [List.getElem?_eq_none (by omega),List.getElem?_eq_none (by simp [seenC]; omega)]
theorem reads_ne {H:Hp} {s:Sl} {l:List Int} {k:IntKind} {b:Nat} {seen:List Int} (hr:Reads k H s l) (hl:l ≠ []) (hb:H[b]?=some (some ⟨false,seenC seen⟩)):s.blk ≠ b:=by
 intro e
 have h0:0 < l.length:=List.length_pos_iff.2 hl
 have:=hr.cell 0 h0
 unfold Hp.cell at this
 rw [e,hb] at this
 simp only at this
 have hm:=List.mem_of_getElem? this
 unfold seenC at hm
 obtain ⟨v,_,hv⟩:=List.mem_map.1 hm
 cases hv
theorem But.reads' {b:Nat} {H H':Hp} (h:But b H H') {k:IntKind} {s:Sl} {l:List Int} {seen:List Int} (hb:H[b]?=some (some ⟨false,seenC seen⟩)) (hr:Reads k H s l):Reads k H' s l:=by
 by_cases hl:l=[]
 ·subst hl; exact reads_nil hr.len
 ·exact h.reads (reads_ne hr hl hb) hr
theorem implSquareFits_l1 (rec:Rec) (k:Nat) (L0:Sl→Int→Int→Int→Hp→An) {H0:Hp} {s t:Sl} {g cells:List Int} {n top line:Int} {b:Nat} (hs:Reads .i64 H0 s g)
  (hc:∀ c ∈ cells,0 ≤ c∧c < (g.length:Int)) (hg:∀ v ∈ g,0 ≤ v∧v ≤ 4) (hl:cells.length ≤ 1000) (hline:IntKind.i64.wrap (line + 1)=line + 1) :
  ∀ (j i fuel:Nat) (H:Hp) (seen:List Int),i + j=cells.length→j < fuel→H0 <+: H→Own 1 H0 H (Sl.mk false b 0 5) (seenC seen)→Reads .i64 H t cells →
   ∃ H',H0 <+: H'∧impl_SquareFits.l1 rec k L0 fuel s n b 0 top line t cells.length i H=bif clashL g (cells.drop i) seen then some (.bool false,H') else L0 s n top (line + 1) H':=by
 intro j
 induction j with
 | zero=>
  intro i fuel H seen hi hf hp ho ht
  obtain ⟨fuel,rfl⟩:=Zs fuel (by omega)
  refine ⟨H,hp,?_⟩
  simp [impl_SquareFits.l1,impl_SquareFits.j3,show ¬ i < cells.length by omega,List.drop_eq_nil_of_le (show cells.length ≤ i by omega),clashL,hline]
 | succ j ih=>
  intro i fuel H seen hi hf hp ho ht
  obtain ⟨fuel,rfl⟩:=Zs fuel (by omega)
  have h1:=ht.len
  have h2:i < cells.length:=by omega
  have h3:=reads_at ht i h2
  have h4:=wrs (i:=i) (by omega)
  obtain ⟨c0,c1⟩:=hc _ (List.getElem_mem h2)
  have h5:=gv_at (pf_reads hp hs) c0 c1
  obtain ⟨v0,v1⟩:=hg _ (gv_mem c0 c1)
  rw [List.drop_eq_getElem_cons h2]
  simp only [clashL]
  obtain ⟨v,hv⟩:=Int.eq_ofNat_of_zero_le v0
  rw [hv] at h5 ⊢
  have hv5:v < 5:=by omega
  have hsl:=hs.len
  obtain ⟨H1,a1,a2,a3,a4,a5⟩:=own_sto ho hp v [.bool true] (by simp [seenC]; omega)
  rw [show v + [AV.bool true].length=v + 1 from rfl,seen_set seen v hv5] at a3
  simp only [Nat.zero_add] at a1
  obtain ⟨H',b1,b2⟩:=ih (i + 1) fuel H1 ((v:Int) :: seen) (by omega) (by omega) a2 a3 (a4.reads' ho.get ht)
  rw [show ((i + 1:Nat):Int)=(i:Int) + 1 by omega] at b2
  have q1:((i:Int) < (t.len:Int)):=by omega
  have q2:((i:Int) < (cells.length:Int)):=by omega
  have q0:(0:Int) ≤ (i:Int):=by omega
  have z0:(0:Int) ≤ (v:Int):=by omega
  have z3:(v:Int) < ((5:Nat):Int):=by omega
  have c1':cells[i] < (s.len:Int):=by omega
  have hld:ldB H b v=some (seen.contains (v:Int)):=by
   have:=own_cell ho v
   simp only [Nat.zero_add] at this
   unfold ldB
   rw [this]
   simp [seenC,hv5,AV.toB]
  by_cases hp':0 < v
  ·have z1:((v:Int) > 0):=by omega
   have z2:(0:Int) < (v:Int):=z1
   cases hse':seen.contains (v:Int) with
   | true=>
    rw [hse'] at hld
    refine ⟨H,hp,?_⟩
    simp only [impl_SquareFits.l1,impl_SquareFits.j2,impl_SquareFits.j4,impl_SquareFits.j5,q0,q1,q2,c0,c1',z0,z1,z2,z3,decide_true,Za,Zt,Zf,Zn,Nat.mul_one,Nat.zero_add,h3,h5,Zo,hld,Bool.true_or]
   | false=>
    rw [hse'] at hld
    refine ⟨H',b1,?_⟩
    simp only [impl_SquareFits.l1,impl_SquareFits.j2,impl_SquareFits.j4,impl_SquareFits.j5,q0,q1,q2,c0,c1',z0,z1,z2,z3,decide_true,Za,Bool.and_false,Zt,Zf,Zn,Nat.mul_one,Nat.zero_add,h3,h5,Zo,hld,Bool.false_or,a1,h4,b2]
  ·have z1:¬ ((v:Int) > 0):=by omega
   have z2:¬ (0:Int) < (v:Int):=z1
   refine ⟨H',b1,?_⟩
   simp only [impl_SquareFits.l1,impl_SquareFits.j2,impl_SquareFits.j4,impl_SquareFits.j5,q0,q1,q2,c0,c1',z0,z1,z2,z3,decide_true,decide_false,Za,Bool.false_and,Zt,Zf,Zn,Nat.mul_one,Nat.zero_add,h3,h5,Zo,Bool.false_or,a1,h4,b2]
theorem implSquareFits_l0 {k:Nat} (hk:2000000 ≤ k) {H0:Hp} {s:Sl} {g:List Int} {n:Int} (hs:Reads .i64 H0 s g) (hg:gridOk g n=true) :
  ∀ (j fuel line:Nat) (H:Hp),(line:Int) + j=2 * n→j < fuel→H0 <+: H →
   ∃ H',impl_SquareFits.l0 (callF PP orc k) k fuel s n (2 * n) line H=some (.bool (!clashFrom g n line j),H')∧H0 <+: H':=by
 obtain ⟨⟨n1,n2⟩,n3,n4⟩:=(gridOk_iff g n).1 hg
 intro j
 induction j with
 | zero=>
  intro fuel line H hl hf hp
  obtain ⟨fuel,rfl⟩:=Zs fuel (by omega)
  refine ⟨H,?_,hp⟩
  have:¬ ((line:Int) < 2 * n):=by omega
  simp only [impl_SquareFits.l0,this,decide_false,Zf,clashFrom,Zx]
 | succ j ih=>
  intro fuel line H hl hf hp
  obtain ⟨fuel,rfl⟩:=Zs fuel (by omega)
  have q1:((line:Int) < 2 * n):=by omega
  have hnew:=own_base (own_new 1 H [.bool false,.bool false,.bool false,.bool false,.bool false] 5 rfl) hp
  obtain ⟨H1,a1,a2,a3,a4,a5⟩:=own_sto hnew (hp.trans (List.prefix_append _ _)) 0 [.bool false,.bool false,.bool false,.bool false,.bool false] (by simp)
  obtain ⟨t,H2,e1,e2,e3⟩:=implLineCells_ok hk n line H1
  have hseen:Own 1 H0 H1 (Sl.mk false H.length 0 5) (seenC []):=a3
  obtain ⟨H3,b1,b2⟩:=implSquareFits_l1 (callF PP orc k) k (impl_SquareFits.l0 (callF PP orc k) k fuel) (line:=line) (n:=n) (top:=2 * n) hs (fun c hc=>by rw [n3]; exact lineCells_mem hc) (fun v hv=>⟨(n4 v hv).1,by have:=(n4 v hv).2; omega⟩)
   (by have:=lineCells_len n line; omega) (wr (by omega) (by omega)) (lineCells n line).length 0 k H2 [] (by omega) (by have:=lineCells_len n line; omega) (a2.trans e2) (own_pf hseen e2) e3
  simp only [List.drop_zero,Int.natCast_zero] at b2
  simp only [Nat.zero_add] at a1
  have hlen:=e3.len
  have a1':(H ++ [some (Blk.mk false [.bool false,.bool false,.bool false,.bool false,.bool false])]).sto H.length 0 [.bool false,.bool false,.bool false,.bool false,.bool false]=some H1:=a1
  cases hc:clashL g (lineCells n line) [] with
  | true=>
   refine ⟨H3,?_,b1⟩
   simp only [hc,Zt] at b2
   simp only [impl_SquareFits.l0,q1,decide_true,Zt,a1',e1,Zo,AV.toS,if_true,clashFrom,hc,Bool.true_or,Zy,hlen]
   exact b2
  | false=>
   obtain ⟨H',c1,c2⟩:=ih fuel (line + 1) H3 (by omega) (by omega) b1
   push_cast at c1
   refine ⟨H',?_,c2⟩
   simp only [hc,Zf] at b2
   simp only [impl_SquareFits.l0,q1,decide_true,Zt,a1',e1,Zo,AV.toS,if_true,clashFrom,hc,Bool.false_or,hlen]
   exact b2.trans c1
theorem implSquareFits_ok {k:Nat} (hk:2000001 ≤ k) {H:Hp} {s:Sl} {g:List Int} (n:Int) (hs:Reads .i64 H s g) (hl:g.length ≤ 1048576) :
  ∃ H',callF PP orc k impl_SquareFits.id [.sl 1 s,.int .i64 n] H=some (.bool (squareFits g n),H')∧H <+: H':=by
 obtain ⟨k,rfl⟩:=Zs k (by omega)
 rw [impl_SquareFits.call]
 have h1:=implGridValid_ok (show 2000000 ≤ k by omega) hs hl n
 cases hg:gridOk g n with
 | true=>
  obtain ⟨⟨n1,n2⟩,n3,n4⟩:=(gridOk_iff g n).1 hg
  have hw:IntKind.i64.wrap (2 * n)=2 * n:=wr (by omega) (by omega)
  obtain ⟨H',a1,a2⟩:=implSquareFits_l0 (show 2000000 ≤ k by omega) hs hg (2 * n).toNat k 0 H (by omega) (by omega) (List.prefix_refl _)
  refine ⟨H',?_,a2⟩
  simp only [impl_SquareFits.f,h1,hg,Zo,AV.toB,Zy,Zf,hw,squareFits,Bool.true_and]
  exact a1
 | false=>exact ⟨H,by simp only [impl_SquareFits.f,h1,hg,Zo,AV.toB,Zx,Zt,squareFits,Bool.false_and],List.prefix_refl _⟩
theorem get_new (L:Hp) (x:Option Blk):(L ++ [x])[L.length]?=some x:=by simp
theorem implruleMasks_ok {k:Nat} (hk:2000030 ≤ k) {kind value:Int} {cs ws:Sl} {H:Hp} {own:List Int} (hw:Reads .i64 H ws own) (hol:own.length ≤ 4) (hom:∀ m ∈ own,(0 ≤ m∧m ≤ 30)∧m.tmod 2=0) (hk2:KindLen kind own.length) :
  ∃ t H',callF PP orc k impl_ruleMasks.id [.agg [.int .i64 kind,.sl 1 cs,.int .i64 value],.sl 1 ws] H=some (.sl 1 t,H')∧H <+: H'∧Own 1 H H' t ((ruleMasksV kind value own).map (.int .i64)):=by
 obtain ⟨k,rfl⟩:=Zs k (by omega)
 rw [impl_ruleMasks.call]
 have hwl:=hw.len
 obtain ⟨Ha,hHa⟩:∃ X,H ++ [some (Blk.mk false [.int .i64 kind,.sl 1 cs,.int .i64 value])]=X:=⟨_,rfl⟩
 obtain ⟨Hb,hHb⟩:∃ X,Ha ++ [some (Blk.mk false [.sl 1 ws])]=X:=⟨_,rfl⟩
 obtain ⟨Hc,hHc⟩:∃ X,Hb ++ [some (Blk.mk false ((List.replicate own.length (0:Int)).map (.int .i64)))]=X:=⟨_,rfl⟩
 obtain ⟨Hd,hHd⟩:∃ X,Hc ++ [some (Blk.mk false [.sl 1 Sl.none])]=X:=⟨_,rfl⟩
 have la:Ha.length=H.length + 1:=by rw [← hHa]; simp
 have lb:Hb.length=H.length + 2:=by rw [← hHb]; simp [la]
 have lc:Hc.length=H.length + 3:=by rw [← hHc]; simp [lb]
 have ld:Hd.length=H.length + 4:=by rw [← hHd]; simp [lc]
 have pa:H <+: Ha:=by rw [← hHa]; exact (List.prefix_append _ _)
 have pb:Ha <+: Hb:=by rw [← hHb]; exact (List.prefix_append _ _)
 have pc:Hb <+: Hc:=by rw [← hHc]; exact (List.prefix_append _ _)
 have pd:Hc <+: Hd:=by rw [← hHd]; exact (List.prefix_append _ _)
 have ga:Ha[H.length]?=some (some (Blk.mk false [.int .i64 kind,.sl 1 cs,.int .i64 value])):=by rw [← hHa]; exact get_new _ _
 have gb:Hb[Ha.length]?=some (some (Blk.mk false [.sl 1 ws])):=by rw [← hHb]; exact get_new _ _
 have gc:Hc[Hb.length]?=some (some (Blk.mk false ((List.replicate own.length (0:Int)).map (.int .i64)))):=by rw [← hHc]; exact get_new _ _
 have gd:Hd[Hc.length]?=some (some (Blk.mk false [.sl 1 Sl.none])):=by rw [← hHd]; exact get_new _ _
 obtain ⟨H2,a1,a2,a3,a4⟩:=sto1' gd (.sl 1 (Sl.mk false Hb.length 0 own.length))
 obtain ⟨He,hHe⟩:∃ X,H2 ++ [some (Blk.mk false ((List.replicate own.length (0:Int)).map (.int .i64)))]=X:=⟨_,rfl⟩
 obtain ⟨Hf,hHf⟩:∃ X,He ++ [some (Blk.mk false [.sl 1 Sl.none])]=X:=⟨_,rfl⟩
 have le:He.length=H.length + 5:=by rw [← hHe]; simp; omega
 have lf:Hf.length=H.length + 6:=by rw [← hHf]; simp [le]
 have pe:H2 <+: He:=by rw [← hHe]; exact (List.prefix_append _ _)
 have pf:He <+: Hf:=by rw [← hHf]; exact (List.prefix_append _ _)
 have ge:He[H2.length]?=some (some (Blk.mk false ((List.replicate own.length (0:Int)).map (.int .i64)))):=by rw [← hHe]; exact get_new _ _
 have gf:Hf[He.length]?=some (some (Blk.mk false [.sl 1 Sl.none])):=by rw [← hHf]; exact get_new _ _
 obtain ⟨H4,b1,b2,b3,b4⟩:=sto1' gf (.sl 1 (Sl.mk false H2.length 0 own.length))
 obtain ⟨Hg,hHg⟩:∃ X,H4 ++ [some (Blk.mk false [.nilf])]=X:=⟨_,rfl⟩
 have lg:Hg.length=H.length + 7:=by rw [← hHg]; simp; omega
 have pg:H4 <+: Hg:=by rw [← hHg]; exact (List.prefix_append _ _)
 have gg:Hg[H4.length]?=some (some (Blk.mk false [.nilf])):=by rw [← hHg]; exact get_new _ _
 obtain ⟨H5,c1,c2,c3,c4⟩:=sto1' gg (.fn impl_ruleMasks_1.id [.ptr Ha.length 0,.ptr H.length 0,.ptr He.length 0,.ptr Hc.length 0,.ptr H4.length 0])
 -- what lies where in the end
 have up:∀ {d:Nat} {x:Blk},d ≠ Hc.length→Hd[d]?=some (some x)→H2[d]?=some (some x):=fun h h'=>a3 _ _ h h'
 have up4:∀ {d:Nat} {x:Blk},d ≠ He.length→H2[d]?=some (some x)→H4[d]?=some (some x):=fun h h'=>b3 _ _ h (pf_get (pe.trans pf) h')
 have up5:∀ {d:Nat} {x:Blk},d ≠ H4.length→H4[d]?=some (some x)→H5[d]?=some (some x):=fun h h'=>c3 _ _ h (pf_get pg h')
 have hr5:=up5 (by omega) (up4 (by omega) (up (by omega) (pf_get (pb.trans (pc.trans pd)) ga)))
 have hb2:=up (by omega) (pf_get (pc.trans pd) gb)
 have hb5:=up5 (by omega) (up4 (by omega) hb2)
 have hc5:=up5 (by omega) (up4 (by omega) (up (by omega) (pf_get pd gc)))
 have ho5:=up5 (by omega) (up4 (by omega) a2)
 have hv5:=up5 (by omega) (b3 _ _ (by omega) (pf_get pf ge))
 have hvb5:=up5 (by omega) b2
 have p5:H <+: H5:=by
  have q2:H <+: H2:=a3.pf (by omega) (pa.trans (pb.trans (pc.trans pd))) (by omega)
  have q4:H <+: H4:=b3.pf (by omega) (q2.trans (pe.trans pf)) (by omega)
  exact c3.pf (by omega) (q4.trans pg) (by omega)
 have ht:Try H5 Ha.length H.length He.length Hc.length H4.length kind value cs ws (Sl.mk false H2.length 0 own.length) (Sl.mk false Hb.length 0 own.length):=
  ⟨hb5,hr5,hvb5,ho5,c2,by simp only; omega⟩
 obtain ⟨H',rest',d1,d2,d3,d4,d5,d6⟩:=Try_ok (B:=H) (value:=value) hw hol hom hk2 (vs:=Sl.mk false H2.length 0 own.length) (os:=Sl.mk false Hb.length 0 own.length) (by simp only; omega) own.length k (by omega) H5 [] (List.replicate own.length 0) (List.replicate own.length 0) (by simp) (by simp) p5 ht
  ⟨rfl,rfl,by simp only; omega,by simpa using hv5,by simp⟩ ⟨by simp,fun v hv=>by cases hv⟩ (by simp) (Ms.zeros _) ⟨rfl,rfl,by simp only; omega,hc5,by simp⟩
 have ht':=ht.adv d4
 refine ⟨Sl.mk false Hb.length 0 own.length,H',?_,d3,by simpa [ruleMasksV] using d6⟩
 have l1:ldS 1 Hb Ha.length 0=some ws:=box_sl gb
 have l2:ldS 1 H2 Ha.length 0=some ws:=box_sl hb2
 have l3:ldF H5 H4.length 0=some (impl_ruleMasks_1.id,[.ptr Ha.length 0,.ptr H.length 0,.ptr He.length 0,.ptr Hc.length 0,.ptr H4.length 0]):=by unfold ldF Hp.cell; rw [c2]; simp [AV.toF]
 have l4:=box_sl ht'.o
 simp only [Zm,Int.natCast_zero] at d1
 simp only [impl_ruleMasks.f,hHa,hHb,l1,Zo]
 rw [ip (by omega)]
 simp only [hwl,Zn,flat0s,hHc,hHd,a1,Zo,l2]
 rw [ip (by omega)]
 simp only [hwl,Zn,flat0s,hHe,hHf,b1,Zo,hHg,c1,l3,okTry,List.cons_append,List.nil_append,List.all_cons,List.all_nil,AV.glob,AV.cell,Za,Zt,d1,l4]
theorem kindLen_of {n kind value:Int} {m:Nat} (h:kindOk n kind value m=true):KindLen kind m:=by
 unfold kindOk at h
 unfold KindLen
 split at h
 ·omega
 ·split at h
  ·omega
  ·split at h
   ·simp only [decide_eq_true_eq] at h; omega
   ·split at h
    ·simp only [decide_eq_true_eq] at h; omega
    ·cases h
theorem ownOf_even {n:Int} {masks cells:List Int} (hm:masksOk n masks=true) (hc:∀ c ∈ cells,0 ≤ c∧c < (masks.length:Int)):∀ m ∈ ownOf masks cells,(0 ≤ m∧m ≤ 30)∧m.tmod 2=0:=fun m h=>by
 obtain ⟨c,hc',rfl⟩:=List.mem_map.1 h
 obtain ⟨c0,c1⟩:=hc c hc'
 have:=(masksOk_iff.1 hm).2.1 _ (gv_mem c0 c1)
 unfold maskOk at this
 simp only [Bool.and_eq_true,decide_eq_true_eq,beq_iff_eq] at this
 have ht:=topMask_le n
 omega
/-! ### impl.canHold -/
theorem canHold_l0 {k:Nat} (hk:2000040 ≤ k) {n kind value:Int} {cs xs:Sl} {H0:Hp} {cells g:List Int} (hc:Reads .i64 H0 cs cells) (hx:Reads .i64 H0 xs g) (hr:ruleOk n kind cells value=true) (hg:gridOk g n=true) :
  ∀ (j i fuel:Nat) (H:Hp) (t:Sl),i + j=cells.length→j < fuel→H0 <+: H→Own 1 H0 H t ((ownOf (openOf n g) (cells.take i)).map (.int .i64)) →
   ∃ H',impl_canHold.l0 (callF PP orc k) k fuel xs n t cs cells.length i kind cs value H=some (.bool (canHoldV n g (kind,cells,value)),H')∧H0 <+: H':=by
 obtain ⟨hn,g2,g3⟩:=(gridOk_iff g n).1 hg
 obtain ⟨c1,c2,c3,c4⟩:=ruleOk_cells hr
 have hcl:=hc.len
 have hxl:=hx.len
 have hop:(openOf n g).length=g.length:=by simp [openOf]
 intro j
 induction j with
 | zero=>
  intro i fuel H t hi hf hp ho
  obtain ⟨fuel,rfl⟩:=Zs fuel (by omega)
  rw [List.take_of_length_le (by omega)] at ho
  have hkl:KindLen kind (ownOf (openOf n g) cells).length:=by
   simp only [ownOf,List.length_map]
   unfold ruleOk at hr; rw [Bool.and_eq_true] at hr; exact kindLen_of hr.2
  obtain ⟨u,H1,a1,a2,a3⟩:=implruleMasks_ok (show 2000030 ≤ k by omega) (kind:=kind) (value:=value) (cs:=cs) (own_reads ho) (by simp [ownOf]; omega) (ownOf_even (openOf_ok hg) fun c h=>by have:=c1 c h; omega) hkl
  refine ⟨H1,?_,hp.trans a2⟩
  have hl:(ruleMasksV kind value (ownOf (openOf n g) cells)).length=cells.length:=by
   unfold ruleMasksV
   rw [(ways_ok _ _ [] _ ⟨by simp,fun v hv=>by cases hv⟩ (by simp [ownOf]; omega) (Ms.zeros _)).2]
   simp [ownOf]
  have hul:=(own_reads a3).len
  have hd:(ruleMasksV kind value (ownOf (openOf n g) cells)).getD 0 0=(ruleMasksV kind value (ownOf (openOf n g) cells)).headD 0:=by
   cases ruleMasksV kind value (ownOf (openOf n g) cells) <;> rfl
  simp (disch:=omega) only [impl_canHold.l0,impl_canHold.j2,dt,df,bt,bf,nt,nf,Za,Zy,Zx,Zt,Zf,Zn,Zz,Zi,Zo,wr,AV.toB,AV.toI,AV.toS,if_true,a1,rdn (own_reads a3),hd]
  rfl
 | succ j ih=>
  intro i fuel H t hi hf hp ho
  obtain ⟨fuel,rfl⟩:=Zs fuel (by omega)
  have hi2:i < cells.length:=by omega
  have hcc:=c1 _ (mem_getD hi2)
  have hlt:(cells.getD i 0).toNat < g.length:=by omega
  obtain ⟨v0,v1⟩:=g3 _ (mem_getD hlt)
  have htl:t.len=i:=by have:=ho.len; simp [ownOf] at this; omega
  have hval:gv (openOf n g) (cells.getD i 0)=if g.getD (cells.getD i 0).toNat 0 > 0 then pw (g.getD (cells.getD i 0).toNat 0) else topMask n:=by
   unfold gv openOf
   rw [List.getD_eq_getElem?_getD,List.getElem?_map,List.getElem?_eq_getElem hlt,List.getD_eq_getElem?_getD (l:=g),List.getElem?_eq_getElem hlt]; rfl
  have htk:ownOf (openOf n g) (cells.take (i + 1))=ownOf (openOf n g) (cells.take i) ++ [gv (openOf n g) (cells.getD i 0)]:=by
   rw [List.take_succ_eq_append_getElem hi2]; unfold ownOf
   rw [List.map_append,List.getD_eq_getElem?_getD,List.getElem?_eq_getElem hi2]; rfl
  obtain ⟨H1,a1,a2,a3,a4,a5⟩:=own_app1 ho hp (gv (openOf n g) (cells.getD i 0)) (by omega)
  rw [← htk] at a3
  obtain ⟨H',b1,b2⟩:=ih (i + 1) fuel H1 _ (by omega) (by omega) a2 a3
  push_cast at b1
  refine ⟨H',?_,b2⟩
  rw [hval] at a1
  by_cases c:g.getD (cells.getD i 0).toNat 0 > 0
  ·rw [ip c] at a1
   simp (disch:=omega) only [impl_canHold.l0,impl_canHold.j1,dt,df,bt,bf,nt,nf,Za,Zy,Zx,Zt,Zf,Zn,Zz,Zi,Zo,wr,AV.toB,AV.toI,AV.toS,if_true,rdn (pf_reads hp hc),rdn (pf_reads hp hx),iN,m_shl v0,a1,b1]
  ·rw [iN c] at a1
   simp (disch:=omega) only [impl_canHold.l0,impl_canHold.j1,dt,df,bt,bf,nt,nf,Za,Zy,Zx,Zt,Zf,Zn,Zz,Zi,Zo,wr,AV.toB,AV.toI,AV.toS,if_true,rdn (pf_reads hp hc),rdn (pf_reads hp hx),allValues_ok (show 1 ≤ k by omega) hn,a1,b1]
theorem canHold_ok {k:Nat} (hk:2000041 ≤ k) {n kind value:Int} {cs xs:Sl} {H:Hp} {cells g:List Int} (hc:Reads .i64 H cs cells) (hx:Reads .i64 H xs g) (hr:ruleOk n kind cells value=true) (hg:gridOk g n=true) :
  ∃ H',callF PP orc k impl_canHold.id [.agg [.int .i64 kind,.sl 1 cs,.int .i64 value],.sl 1 xs,.int .i64 n] H=some (.bool (canHoldV n g (kind,cells,value)),H')∧H <+: H':=by
 obtain ⟨k,rfl⟩:=Zs k (by omega)
 rw [impl_canHold.call]
 have hcl:=hc.len
 have:=(ruleOk_cells hr).2.1
 obtain ⟨H',a1,a2⟩:=canHold_l0 (show 2000040 ≤ k by omega) hc hx hr hg cells.length 0 k (H ++ [some (Blk.mk false [])]) (Sl.mk false H.length 0 0) (by omega) (by omega) (List.prefix_append _ _) (own_new 1 H [] 0 rfl)
 refine ⟨H',?_,a2⟩
 simp only [Int.natCast_zero] at a1
 simp only [impl_canHold.f,hcl,a1]
/-! ### impl.PuzzleFits, impl.PuzzleSolved -/
theorem implFits_l6 {k:Nat} (hk:2000041 ≤ k) {H0:Hp} {n:Int} {gs s xs:Sl} {given g:List Int} {rs:List R} (hz:PuzAt H0 n gs s given rs) (hro:∀ r ∈ rs,R.ok n r=true) (hx:Reads .i64 H0 xs g) (hg:gridOk g n=true) :
  ∀ (j i fuel:Nat) (H:Hp),i + j=rs.length→j < fuel→H0 <+: H→∃ H',impl_PuzzleFits.l6 (callF PP orc k) k fuel xs s rs.length i n gs s H=some (.bool (((rs.drop i).map R.val).all (canHoldV n g)),H')∧H0 <+: H':=by
 have hlen:=hz.rr.len
 have hrl:=hz.rl
 intro j
 induction j with
 | zero=>
  intro i fuel H hi hf hp
  obtain ⟨fuel,rfl⟩:=Zs fuel (by omega)
  refine ⟨H,?_,hp⟩
  rw [List.drop_eq_nil_of_le (by omega),List.map_nil,List.all_nil]
  simp (disch:=omega) only [impl_PuzzleFits.l6,dt,df,bt,bf,nt,nf,Za,Zy,Zx,Zt,Zf,Zn,Zz,Zi,Zo,wr,AV.toB,AV.toI,AV.toS,if_true]
 | succ j ih=>
  intro i fuel H hi hf hp
  obtain ⟨fuel,rfl⟩:=Zs fuel (by omega)
  have hi2:i < rs.length:=by omega
  obtain ⟨l0,l1,l2⟩:=rules_at1 (pf_readsR hp hz.rr) i hi2
  obtain ⟨H1,a1,a2⟩:=canHold_ok hk (pf_reads hp (hz.rr.cs i hi2)) (pf_reads hp hx) (hro _ (List.getElem_mem hi2)) hg
  obtain ⟨H',b1,b2⟩:=ih (i + 1) fuel H1 (by omega) (by omega) (hp.trans a2)
  push_cast at b1
  rw [List.drop_eq_getElem_cons hi2,List.map_cons,List.all_cons]
  have e:canHoldV n g rs[i].val=canHoldV n g (rs[i].kind,rs[i].cells,rs[i].value):=rfl
  rw [e]
  cases c:canHoldV n g (rs[i].kind,rs[i].cells,rs[i].value) with
  | true=>
   rw [c] at a1
   refine ⟨H',?_,b2⟩
   simp (disch:=omega) only [impl_PuzzleFits.l6,dt,df,bt,bf,nt,nf,Za,Zy,Zx,Zt,Zf,Zn,Zz,Zi,Zo,wr,AV.toB,AV.toI,AV.toS,if_true,l0,l1,l2,a1,b1,Bool.true_and]
  | false=>
   rw [c] at a1
   refine ⟨H1,?_,hp.trans a2⟩
   simp (disch:=omega) only [impl_PuzzleFits.l6,dt,df,bt,bf,nt,nf,Za,Zy,Zx,Zt,Zf,Zn,Zz,Zi,Zo,wr,AV.toB,AV.toI,AV.toS,if_true,l0,l1,l2,a1,Bool.false_and]
theorem implFits_l2 {k:Nat} (hk:2000041 ≤ k) {H:Hp} {n:Int} {gs s xs:Sl} {given g:List Int} {rs:List R} (hz:PuzAt H n gs s given rs) (hro:∀ r ∈ rs,R.ok n r=true) (hx:Reads .i64 H xs g) (hg:gridOk g n=true) (hl:given.length=g.length) :
  ∀ (j i fuel:Nat),i + j=g.length→j < fuel→∃ H',impl_PuzzleFits.l2 (callF PP orc k) k fuel xs xs g.length i n gs s H=some (.bool (compatFrom given g i j && (rs.map R.val).all (canHoldV n g)),H')∧H <+: H':=by
 have hgl:=hz.rg.len
 have hxl:=hx.len
 have hrl:=hz.rr.len
 have h16:=gridOk_len hg
 intro j
 induction j with
 | zero=>
  intro i fuel hi hf
  obtain ⟨fuel,rfl⟩:=Zs fuel (by omega)
  obtain ⟨H1,a1,a2⟩:=implFits_l6 hk hz hro hx hg rs.length 0 k H (by omega) (by have:=hz.rl; omega) (List.prefix_refl _)
  simp only [Int.natCast_zero,List.drop_zero] at a1
  refine ⟨H1,?_,a2⟩
  simp (disch:=omega) only [impl_PuzzleFits.l2,impl_PuzzleFits.j4,dt,df,bt,bf,nt,nf,Za,Zy,Zx,Zt,Zf,Zn,Zz,Zi,Zo,wr,AV.toB,AV.toI,AV.toS,if_true,hrl,a1,compatFrom,Bool.true_and]
 | succ j ih=>
  intro i fuel hi hf
  obtain ⟨fuel,rfl⟩:=Zs fuel (by omega)
  obtain ⟨H',b1,b2⟩:=ih (i + 1) fuel (by omega) (by omega)
  push_cast at b1
  rw [compatFrom]
  by_cases c2:g.getD i 0 > 0
  ·by_cases c1:given.getD i 0 > 0
   ·by_cases c3:g.getD i 0=given.getD i 0
    ·refine ⟨H',?_,b2⟩
     simp (disch:=omega) only [impl_PuzzleFits.l2,impl_PuzzleFits.j3,impl_PuzzleFits.j5,dt,df,bt,bf,nt,nf,Za,Zy,Zx,Zt,Zf,Zn,Zz,Zi,Zo,wr,AV.toB,AV.toI,AV.toS,if_true,rdn hz.rg,rdn hx,b1,Bool.and_false,Bool.true_and]
    ·refine ⟨H,?_,(List.prefix_refl _)⟩
     simp (disch:=omega) only [impl_PuzzleFits.l2,impl_PuzzleFits.j3,impl_PuzzleFits.j5,dt,df,bt,bf,nt,nf,Za,Zy,Zx,Zt,Zf,Zn,Zz,Zi,Zo,wr,AV.toB,AV.toI,AV.toS,if_true,rdn hz.rg,rdn hx,Bool.and_true,Bool.false_and]
   ·refine ⟨H',?_,b2⟩
    simp (disch:=omega) only [impl_PuzzleFits.l2,impl_PuzzleFits.j3,impl_PuzzleFits.j5,dt,df,bt,bf,nt,nf,Za,Zy,Zx,Zt,Zf,Zn,Zz,Zi,Zo,wr,AV.toB,AV.toI,AV.toS,if_true,rdn hz.rg,rdn hx,b1,Bool.and_false,Bool.false_and,Bool.true_and]
  ·refine ⟨H',?_,b2⟩
   simp (disch:=omega) only [impl_PuzzleFits.l2,impl_PuzzleFits.j3,impl_PuzzleFits.j5,dt,df,bt,bf,nt,nf,Za,Zy,Zx,Zt,Zf,Zn,Zz,Zi,Zo,wr,AV.toB,AV.toI,AV.toS,if_true,rdn hz.rg,rdn hx,b1,Bool.and_false,Bool.false_and,Bool.true_and]
theorem implPuzzleFits_ok {k:Nat} (hk:2000042 ≤ k) {H:Hp} {n:Int} {gs s xs:Sl} {given g:List Int} {rs:List R} (hz:PuzAt H n gs s given rs) (hx:Reads .i64 H xs g) (hl:g.length ≤ 1000) :
  ∃ H',callF PP orc k impl_PuzzleFits.id [.agg [.int .i64 n,.sl 1 gs,.sl 3 s],.sl 1 xs] H=some (.bool (puzzleFitsV n given (rs.map R.val) g),H')∧H <+: H':=by
 obtain ⟨k,rfl⟩:=Zs k (by omega)
 rw [impl_PuzzleFits.call]
 have h1:=implPuzzleValid_ok (show 2000003 ≤ k by omega) hz.n4 hz.rg hz.gl hz.rr hz.rl hz.rc
 rw [puzzle_map] at h1
 unfold puzzleFitsV
 cases c1:puzzleV n given (rs.map R.val) with
 | false=>
  rw [c1] at h1
  exact ⟨H,by simp only [impl_PuzzleFits.f,impl_PuzzleFits.j0,dt,df,bt,bf,nt,nf,Za,Zy,Zx,Zt,Zf,Zn,Zz,Zi,Zo,wr,AV.toB,AV.toI,AV.toS,if_true,h1,Bool.false_and],(List.prefix_refl _)⟩
 | true=>
  rw [c1] at h1
  obtain ⟨p1,p2,p3⟩:=puzzleV_iff c1
  obtain ⟨H1,a1,a2⟩:=implSquareFits_ok (show 2000001 ≤ k by omega) n hx (by omega)
  unfold squareFits at a1
  cases c2:gridOk g n with
  | false=>
   rw [c2] at a1
   exact ⟨H1,by simp only [impl_PuzzleFits.f,impl_PuzzleFits.j0,dt,df,bt,bf,nt,nf,Za,Zy,Zx,Zt,Zf,Zn,Zz,Zi,Zo,wr,AV.toB,AV.toI,AV.toS,if_true,h1,a1,Bool.false_and,Bool.true_and],a2⟩
  | true=>
   rw [c2,Bool.true_and] at a1
   cases c3:clash g n with
   | true=>
    rw [c3] at a1
    refine ⟨H1,?_,a2⟩
    unfold fitsV
    simp only [impl_PuzzleFits.f,impl_PuzzleFits.j0,dt,df,bt,bf,nt,nf,Za,Zy,Zx,Zt,Zf,Zn,Zz,Zi,Zo,wr,AV.toB,AV.toI,AV.toS,if_true,h1,a1,Bool.true_and,c3,Bool.and_false]
   | false=>
    rw [c3] at a1
    obtain ⟨H2,b1,b2⟩:=implFits_l2 (show 2000041 ≤ k by omega) (hz.pf a2) p3 (pf_reads a2 hx) c2 (grid_len_eq p1 c2) g.length 0 k (by omega) (by omega)
    have hxl:=hx.len
    refine ⟨H2,?_,a2.trans b2⟩
    simp only [Int.natCast_zero] at b1
    unfold fitsV compatB
    simp only [impl_PuzzleFits.f,impl_PuzzleFits.j0,impl_PuzzleFits.j1,dt,df,bt,bf,nt,nf,Za,Zy,Zx,Zt,Zf,Zn,Zz,Zi,Zo,wr,AV.toB,AV.toI,AV.toS,if_true,h1,a1,hxl,b1,Bool.true_and,c3,Bool.and_true]
theorem dm_of {n:Int} {l:List Int} (h:masksOk n l=true):l.length ≤ 16∧0 < l.length∧∀ m ∈ l,-2 ≤ m∧m ≤ 63:=by
 obtain ⟨h1,h2,h3⟩:=masksOk_iff.1 h
 have:=masks_len h
 refine ⟨by omega,by omega,fun m hm=>?_⟩
 have:=(maskOk_iff.1 (h2 m hm)).1
 have:=topMask_le n
 omega
theorem implRM_l2 {k:Nat} (hk:2000030 ≤ k) {n kind value:Int} {cs ms:Sl} {H0:Hp} {cells l:List Int} (hc:Reads .i64 H0 cs cells) (hm:Reads .i64 H0 ms l) (hr:ruleOk n kind cells value=true) (hl:masksOk n l=true) :
  ∀ (j i fuel:Nat) (H:Hp) (t:Sl),i + j=cells.length→j < fuel→H0 <+: H→Own 1 H0 H t ((ownOf l (cells.take i)).map (.int .i64)) →
   ∃ t' H',impl_RuleMasks.l2 (callF PP orc k) k fuel ms t cs cells.length i kind cs value H=some (.sl 1 t',H')∧H0 <+: H'∧Own 1 H0 H' t' ((ruleMasksV kind value (ownOf l cells)).map (.int .i64)):=by
 obtain ⟨c1,c2,c3,c4⟩:=ruleOk_cells hr
 have hcl:=hc.len
 have hml:=hm.len
 have hsz:=(masksOk_iff.1 hl).2.2
 have hk2:KindLen kind cells.length:=by
  have hr':=hr
  unfold ruleOk at hr'
  rw [Bool.and_eq_true] at hr'
  exact kindLen_of hr'.2
 intro j
 induction j with
 | zero=>
  intro i fuel H t hi hf hp ho
  obtain ⟨fuel,rfl⟩:=Zs fuel (by omega)
  rw [List.take_of_length_le (by omega)] at ho
  obtain ⟨t',H',a1,a2,a3⟩:=implruleMasks_ok hk (kind:=kind) (value:=value) (cs:=cs) (own_reads ho) (by rw [own_len]; omega) (ownOf_even hl fun c hcc=>by have:=c1 c hcc; omega) (by rw [own_len]; exact hk2)
  refine ⟨t',H',?_,hp.trans a2,own_base a3 hp⟩
  simp (disch:=omega) only [impl_RuleMasks.l2,impl_RuleMasks.j3,df,Zf,a1,Zo,AV.toS,if_true]
 | succ j ih=>
  intro i fuel H t hi hf hp ho
  obtain ⟨fuel,rfl⟩:=Zs fuel (by omega)
  have hi2:i < cells.length:=by omega
  have hcc:=c1 _ (mem_getD hi2)
  have htl:t.len=i:=by have:=ho.len; simp [ownOf] at this; omega
  have htk:ownOf l (cells.take (i + 1))=ownOf l (cells.take i) ++ [l.getD (cells.getD i 0).toNat 0]:=by
   rw [List.take_succ_eq_append_getElem hi2]; unfold ownOf
   rw [List.map_append,List.getD_eq_getElem?_getD (l:=cells),List.getElem?_eq_getElem hi2]; rfl
  obtain ⟨H1,a1,a2,a3,a4,a5⟩:=own_app1 ho hp (l.getD (cells.getD i 0).toNat 0) (by omega)
  rw [← htk] at a3
  obtain ⟨t',H',b1,b2,b3⟩:=ih (i + 1) fuel H1 _ (by omega) (by omega) a2 a3
  push_cast at b1
  refine ⟨t',H',?_,b2,b3⟩
  have hc0:(0:Int) ≤ cells.getD i 0:=hcc.1
  have hc3:cells.getD i 0 < (ms.len:Int):=by omega
  simp (disch:=omega) only [impl_RuleMasks.l2,dt,Za,Zt,Zn,Zo,rdn (pf_reads hp hc),rdn (pf_reads hp hm),a1,wr (n:=(i:Int) + 1),b1]
theorem implRuleMasks_ok {k:Nat} (hk:2000040 ≤ k) {n kind value:Int} (hn:2 ≤ n∧n ≤ 4) {cs ms:Sl} {H:Hp} {cells l:List Int} (hc:Reads .i64 H cs cells) (hm:Reads .i64 H ms l) (hcl:cells.length ≤ 1000) (hml:l.length ≤ 1000) (hr:∀ m ∈ l,-2 ≤ m∧m ≤ 63) :
  ∃ t H',callF PP orc k impl_RuleMasks.id [.agg [.int .i64 kind,.sl 1 cs,.int .i64 value],.sl 1 ms,.int .i64 n] H=some (.sl 1 t,H')∧H <+: H'∧NilOr H H' t (ruleMasksS n kind value cells l):=by
 obtain ⟨k,rfl⟩:=Zs k (by omega)
 rw [impl_RuleMasks.call]
 have h1:=implRuleValid_ok (show 2000002 ≤ k by omega) (kind:=kind) (value:=value) hn hc hcl
 have h2:=implMasksValid_ok (show 2000000 ≤ k by omega) (n:=n) (by omega) hm hml hr
 have hcs:=hc.len
 unfold ruleMasksS
 cases e1:ruleOk n kind cells value with
 | false=>
  rw [e1] at h1
  refine ⟨Sl.none,H,by simp only [impl_RuleMasks.f,impl_RuleMasks.j0,dt,df,bt,bf,nt,nf,Za,Zy,Zx,Zt,Zf,Zn,Zz,Zi,Zo,wr,AV.toB,AV.toI,AV.toS,if_true,h1],(List.prefix_refl _),.inl ⟨rfl,?_⟩⟩
  rw [iN (by simp)]
 | true=>
  rw [e1] at h1
  cases e2:masksOk n l with
  | false=>
   rw [e2] at h2
   refine ⟨Sl.none,H,by simp only [impl_RuleMasks.f,impl_RuleMasks.j0,dt,df,bt,bf,nt,nf,Za,Zy,Zx,Zt,Zf,Zn,Zz,Zi,Zo,wr,AV.toB,AV.toI,AV.toS,if_true,h1,h2],(List.prefix_refl _),.inl ⟨rfl,?_⟩⟩
   rw [iN (by simp)]
  | true=>
   rw [e2] at h2
   rw [ip ⟨by rw [decide_eq_true hn]; rfl,rfl⟩]
   have hcb:=(ruleOk_cells e1).2.1
   obtain ⟨t',H',b1,b2,b3⟩:=implRM_l2 (show 2000030 ≤ k by omega) hc hm e1 e2 cells.length 0 k (H ++ [some (Blk.mk false [])]) (Sl.mk false H.length 0 0) (by omega) (by omega) (List.prefix_append _ _) (own_new 1 H [] 0 rfl)
   refine ⟨t',H',?_,b2,.inr b3⟩
   simp only [Int.natCast_zero] at b1
   simp only [impl_RuleMasks.f,impl_RuleMasks.j0,impl_RuleMasks.j1,dt,df,bt,bf,nt,nf,Za,Zy,Zx,Zt,Zf,Zn,Zz,Zi,Zo,wr,AV.toB,AV.toI,AV.toS,if_true,h1,h2,hcs,b1]
theorem iRules_l3 (rec:Rec) (k:Nat) (L2:Sl→Sl→Int→Int→Int→Sl→Sl→Hp→An) {H0 Hb:Hp} {n kind value x24:Int} {gs s cs us t x23:Sl} {cells fl:List Int} {i m:Nat} (hc:Reads .i64 H0 cs cells) (hcl:cells.length ≤ 1000) (hfl:fl.length=cells.length) (hin:∀ c ∈ cells,0 ≤ c∧c < (m:Int)) (hm:m ≤ 1000) (htb:t.blk < Hb.length) :
  ∀ (j q fuel:Nat) (H:Hp) (a:List Int),q + j=cells.length→j < fuel→H0 <+: H→Own 1 Hb H us (fl.map (.int .i64))→Own 1 H0 H t (a.map (.int .i64))→a.length=m →
   ∃ H',impl_NarrowRules.l3 rec k L2 fuel t x23 x24 i us (cells.length:Int) q n gs s kind cs value H=L2 t x23 x24 (IntKind.i64.wrap ((i:Int) + 1)) n gs s H'∧H0 <+: H'∧Own 1 H0 H' t ((setAll cells a fl q j).map (.int .i64))∧Adv t.blk H H':=by
 have hcs:=hc.len
 intro j
 induction j with
 | zero=>
  intro q fuel H a hq hf hp hu ho ha
  obtain ⟨fuel,rfl⟩:=Zs fuel (by omega)
  refine ⟨H,?_,hp,ho,Adv.refl _ _⟩
  simp (disch:=omega) only [impl_NarrowRules.l3,impl_NarrowRules.j5,df,Zf]
 | succ j ih=>
  intro q fuel H a hq hf hp hu ho ha
  obtain ⟨fuel,rfl⟩:=Zs fuel (by omega)
  have hq2:q < cells.length:=by omega
  obtain ⟨c0,c1⟩:=hin _ (mem_getD hq2)
  have hus:=(own_reads hu).len
  have htl:=(own_reads ho).len
  have hrc:=pf_reads hp hc
  obtain ⟨H1,a1,a2,a3,a4⟩:=own_set1 ho hp (cells.getD q 0).toNat (by omega) (fl.getD q 0)
  obtain ⟨H',b1,b2,b3,b4⟩:=ih (q + 1) fuel H1 _ (by omega) (by omega) a2 (a4.own htb hu) a3 (by simpa using ha)
  push_cast at b1
  refine ⟨H',?_,b2,b3,a4.trans b4⟩
  simp (disch:=omega) only [impl_NarrowRules.l3,dt,Za,Zt,Zn,Zo,rdn hrc,rdn (own_reads hu),a1,wr (n:=(q:Int) + 1),b1]
theorem iRules_l2 {k:Nat} (hk:2000040 ≤ k) {H0:Hp} {n:Int} {gs s t:Sl} {given:List Int} {rs:List R} (hz:PuzAt H0 n gs s given rs) (hro:∀ r ∈ rs,R.ok n r=true) :
  ∀ (j i fuel:Nat) (H:Hp) (a:List Int),i + j=rs.length→j < fuel→H0 <+: H→Own 1 H0 H t (a.map (.int .i64))→masksOk n a=true →
   ∃ H',impl_NarrowRules.l2 (callF PP orc k) k fuel t s (rs.length:Int) i n gs s H=some (.sl 1 t,H')∧H0 <+: H'∧Own 1 H0 H' t ((((rs.drop i).map R.val).foldl (ruleStep n) a).map (.int .i64)):=by
 have hrl:=hz.rr.len
 have hrl2:=hz.rl
 have hn:=hz.n4
 intro j
 induction j with
 | zero=>
  intro i fuel H a hi hf hp ho ha
  obtain ⟨fuel,rfl⟩:=Zs fuel (by omega)
  rw [List.drop_eq_nil_of_le (by omega)]
  refine ⟨H,?_,hp,ho⟩
  simp (disch:=omega) only [impl_NarrowRules.l2,impl_NarrowRules.j4,df,Zf]
 | succ j ih=>
  intro i fuel H a hi hf hp ho ha
  obtain ⟨fuel,rfl⟩:=Zs fuel (by omega)
  have hi2:i < rs.length:=by omega
  obtain ⟨l0,l1,l2⟩:=rules_at1 (pf_readsR hp hz.rr) i hi2
  have hrc:=hz.rc _ (List.getElem_mem hi2)
  have hok:ruleOkV n rs[i].val=true:=hro _ (List.getElem_mem hi2)
  obtain ⟨c1,c2,c3,c4⟩:=ruleOk_cells hok
  obtain ⟨ml4,ml16,_⟩:=masks_len ha
  have hm2:=(masksOk_iff.1 ha).2.2
  obtain ⟨d1',d2',d3'⟩:=dm_of ha
  obtain ⟨u,H1,a1,a2,a3⟩:=implRuleMasks_ok hk (kind:=rs[i].kind) (value:=rs[i].value) hn (pf_reads hp (hz.rr.cs i hi2)) (own_reads ho) (by omega) (by omega) d3'
  have e:ruleMasksS n rs[i].kind rs[i].value rs[i].cells a=ruleMasksV rs[i].kind rs[i].value (ownOf a rs[i].cells):=ruleMasks_S hok ha
  have h4:rs[i].cells.length ≤ 4:=c2
  have h1':1 ≤ rs[i].cells.length:=c3
  have hfl:(ruleMasksS n rs[i].kind rs[i].value rs[i].cells a).length=rs[i].cells.length:=by
   rw [e,(ruleMasks_ok (by rw [own_len]; exact h4)).2,own_len]
  have a3':Own 1 H H1 u ((ruleMasksS n rs[i].kind rs[i].value rs[i].cells a).map (.int .i64)):=by
   rcases a3 with ⟨_,h⟩ | h
   ·rw [h] at hfl; simp at hfl; omega
   ·exact h
  have hul:=(own_reads a3').len
  obtain ⟨H2,b1,b2,b3,b4⟩:=iRules_l3 (callF PP orc k) k (impl_NarrowRules.l2 (callF PP orc k) k fuel) (n:=n) (kind:=rs[i].kind) (value:=rs[i].value) (gs:=gs) (s:=s) (x23:=s) (x24:=(rs.length:Int)) (i:=i) (m:=a.length) (hz.rr.cs i hi2) hrc hfl (fun c hc=>by have:=c1 c hc; omega) (by omega) (own_lt' ho) rs[i].cells.length 0 k H1 a (by omega) (by omega) (hp.trans a2) a3' (own_pf ho a2) rfl
  have hst:masksOk n (ruleStep n a rs[i].val)=true:=(ruleStep_sub hok ha).ok ha
  obtain ⟨H',d1,d2,d3⟩:=ih (i + 1) fuel H2 (ruleStep n a rs[i].val) (by omega) (by omega) b2 b3 hst
  push_cast at d1
  rw [val_drop rs i hi2,List.foldl_cons]
  refine ⟨H',?_,d2,d3⟩
  simp only [Int.natCast_zero] at b1
  have hul2:(u.len:Int)=(rs[i].cells.length:Int):=by omega
  simp (disch:=omega) only [impl_NarrowRules.l2,dt,Za,Zt,Zn,Zo,l0,l1,l2,a1,AV.toS,if_true,hul2,b1,wr (n:=(i:Int) + 1),d1]
theorem implNarrowRules_ok {k:Nat} (hk:2000050 ≤ k) {H:Hp} {n:Int} {gs s ms:Sl} {given l:List Int} {rs:List R} (hz:PuzAt H n gs s given rs) (hm:Reads .i64 H ms l) (hnn:ms.nil=false) (hl:l.length ≤ 1000) (hr:∀ m ∈ l,-2 ≤ m∧m ≤ 63) :
  ∃ t H',callF PP orc k impl_NarrowRules.id [.agg [.int .i64 n,.sl 1 gs,.sl 3 s],.sl 1 ms] H=some (.sl 1 t,H')∧H <+: H'∧NilOr H H' t (rulesV n given (rs.map R.val) l):=by
 obtain ⟨k,rfl⟩:=Zs k (by omega)
 rw [impl_NarrowRules.call]
 have hn:=hz.n4
 have h1:=implPuzzleValid_ok (show 2000003 ≤ k by omega) hz.n4 hz.rg hz.gl hz.rr hz.rl hz.rc
 rw [puzzle_map] at h1
 have h2:=implMasksValid_ok (show 2000000 ≤ k by omega) (n:=n) (by omega) hm hl hr
 unfold rulesV
 cases e1:puzzleV n given (rs.map R.val) with
 | false=>
  rw [e1] at h1
  rw [iN (by simp)]
  exact ⟨Sl.none,H,by simp only [impl_NarrowRules.f,impl_NarrowRules.j0,dt,df,bt,bf,nt,nf,Za,Zy,Zx,Zt,Zf,Zn,Zz,Zi,Zo,wr,AV.toB,AV.toI,AV.toS,if_true,h1],(List.prefix_refl _),.inl ⟨rfl,rfl⟩⟩
 | true=>
  rw [e1] at h1
  cases e2:masksOk n l with
  | false=>
   rw [e2] at h2
   rw [iN (by simp)]
   exact ⟨Sl.none,H,by simp only [impl_NarrowRules.f,impl_NarrowRules.j0,dt,df,bt,bf,nt,nf,Za,Zy,Zx,Zt,Zf,Zn,Zz,Zi,Zo,wr,AV.toB,AV.toI,AV.toS,if_true,h1,h2],(List.prefix_refl _),.inl ⟨rfl,rfl⟩⟩
  | true=>
   rw [e2] at h2
   rw [ip ⟨rfl,rfl⟩]
   have h3:=Clone_own (show 1 ≤ k by omega) hm hnn hl
   have hnew:=own_new 1 H (l.map (.int .i64)) l.length (by simp)
   obtain ⟨_,_,q3⟩:=puzzleV_iff e1
   have hrl:=hz.rl
   have hrs:=hz.rr.len
   obtain ⟨H',b1,b2,b3⟩:=iRules_l2 (show 2000040 ≤ k by omega) hz q3 rs.length 0 k (H ++ [some (Blk.mk false (l.map (.int .i64)))]) l (by omega) (by omega) (List.prefix_append _ _) hnew e2
   rw [List.drop_zero] at b3
   refine ⟨_,H',?_,b2,.inr b3⟩
   simp only [Int.natCast_zero] at b1
   simp only [impl_NarrowRules.f,impl_NarrowRules.j0,impl_NarrowRules.j1,dt,df,bt,bf,nt,nf,Za,Zy,Zx,Zt,Zf,Zn,Zz,Zi,Zo,wr,AV.toB,AV.toI,AV.toS,if_true,h1,h2,h3,hrs,b1]
theorem implNarrowBy_ok {k:Nat} (hk:2000060 ≤ k) {H:Hp} {n:Int} {gs s ms:Sl} {given l:List Int} {rs:List R} (hz:PuzAt H n gs s given rs) (hm:Reads .i64 H ms l) (hnn:ms.nil=false) (hl:l.length ≤ 1000) (hr:∀ m ∈ l,-2 ≤ m∧m ≤ 63) (t:Int) :
  ∃ u H',callF PP orc k impl_NarrowBy.id [.agg [.int .i64 n,.sl 1 gs,.sl 3 s],.sl 1 ms,.int .i64 t] H=some (.sl 1 u,H')∧H <+: H'∧NilOr H H' u (narrowV n given (rs.map R.val) l t):=by
 obtain ⟨k,rfl⟩:=Zs k (by omega)
 rw [impl_NarrowBy.call]
 have hn:=hz.n4
 have h1:=implPuzzleValid_ok (show 2000003 ≤ k by omega) hz.n4 hz.rg hz.gl hz.rr hz.rl hz.rc
 rw [puzzle_map] at h1
 cases e1:puzzleV n given (rs.map R.val) with
 | false=>
  rw [e1] at h1
  have e:narrowV n given (rs.map R.val) l t=[]:=by unfold narrowV; rw [if_neg (by rw [e1]; simp)]
  rw [e]
  exact ⟨Sl.none,H,by simp only [impl_NarrowBy.f,dt,df,bt,bf,nt,nf,Za,Zy,Zx,Zt,Zf,Zn,Zz,Zi,Zo,wr,AV.toB,AV.toI,AV.toS,if_true,h1],(List.prefix_refl _),.inl ⟨rfl,rfl⟩⟩
 | true=>
  rw [e1] at h1
  by_cases t1:t=1
  ·obtain ⟨u,H',a1,a2,a3⟩:=implNarrowSingles_ok (show 2000010 ≤ k by omega) (n:=n) (by omega) hm hnn hl hr
   have e:narrowV n given (rs.map R.val) l t=singlesV n l:=by
    unfold narrowV singlesV; rw [e1]
    by_cases c:masksOk n l=true
    ·simp [c,t1]
    ·simp [c]
   rw [e]
   exact ⟨u,H',by simp only [impl_NarrowBy.f,dt,df,bt,bf,nt,nf,Za,Zy,Zx,Zt,Zf,Zn,Zz,Zi,Zo,wr,AV.toB,AV.toI,AV.toS,if_true,h1,bt t1,a1],a2,a3⟩
  by_cases t2:t=2
  ·obtain ⟨u,H',a1,a2,a3⟩:=implNarrowHidden_ok (show 2000010 ≤ k by omega) (n:=n) (by omega) hm hnn hl hr
   have e:narrowV n given (rs.map R.val) l t=hiddenV n l:=by
    unfold narrowV hiddenV; rw [e1]
    by_cases c:masksOk n l=true
    ·simp [c,t2]
    ·simp [c]
   rw [e]
   exact ⟨u,H',by simp only [impl_NarrowBy.f,dt,df,bt,bf,nt,nf,Za,Zy,Zx,Zt,Zf,Zn,Zz,Zi,Zo,wr,AV.toB,AV.toI,AV.toS,if_true,h1,bf t1,bt t2,a1],a2,a3⟩
  by_cases t3:t=3
  ·obtain ⟨u,H',a1,a2,a3⟩:=implNarrowPairs_ok (show 2000010 ≤ k by omega) (n:=n) (by omega) hm hnn hl hr
   have e:narrowV n given (rs.map R.val) l t=pairsV n l:=by
    unfold narrowV pairsV; rw [e1]
    by_cases c:masksOk n l=true
    ·simp [c,t3]
    ·simp [c]
   rw [e]
   exact ⟨u,H',by simp only [impl_NarrowBy.f,dt,df,bt,bf,nt,nf,Za,Zy,Zx,Zt,Zf,Zn,Zz,Zi,Zo,wr,AV.toB,AV.toI,AV.toS,if_true,h1,bf t1,bf t2,bt t3,a1],a2,a3⟩
  by_cases t4:t=4
  ·obtain ⟨u,H',a1,a2,a3⟩:=implNarrowRules_ok (show 2000050 ≤ k by omega) hz hm hnn hl hr
   have e:narrowV n given (rs.map R.val) l t=rulesV n given (rs.map R.val) l:=by
    unfold narrowV rulesV; rw [e1]
    by_cases c:masksOk n l=true
    ·simp [c,t4]
    ·simp [c]
   rw [e]
   exact ⟨u,H',by simp only [impl_NarrowBy.f,dt,df,bt,bf,nt,nf,Za,Zy,Zx,Zt,Zf,Zn,Zz,Zi,Zo,wr,AV.toB,AV.toI,AV.toS,if_true,h1,bf t1,bf t2,bf t3,bt t4,a1],a2,a3⟩
  have e:narrowV n given (rs.map R.val) l t=[]:=by
   unfold narrowV
   simp [t1,t2,t3,t4]
  rw [e]
  exact ⟨Sl.none,H,by simp only [impl_NarrowBy.f,dt,df,bt,bf,nt,nf,Za,Zy,Zx,Zt,Zf,Zn,Zz,Zi,Zo,wr,AV.toB,AV.toI,AV.toS,if_true,h1,bf t1,bf t2,bf t3,bf t4],(List.prefix_refl _),.inl ⟨rfl,rfl⟩⟩
theorem next_at {N:List Int→Int→List Int} {l:List Int}:∀ (j:Nat) (s t:Int),s ≤ t→t < s + j→(∀ w,s ≤ w→w < t→N l w=l)→N l t ≠ l→nextFrom N l j s=some (t,N l t)
 | 0,s,t,h1,h2,_,_=>by omega
 | j + 1,s,t,h1,h2,h3,h4=>by
  rw [nextFrom]
  by_cases e:s=t
  ·subst e; rw [if_neg h4]
  ·rw [if_pos (h3 s (Int.le_refl _) (by omega))]
   exact next_at j (s + 1) t (by omega) (by omega) (fun w h5 h6=>h3 w (by omega) h6) h4
noncomputable def allV (n:Int) (given:List Int) (vs:List V) (l:List Int) (most:Int):List Int × Int:=
 if puzzleV n given vs=true∧masksOk n l=true∧1 ≤ most∧most ≤ 4 then (lastV (runS (narrowV n given vs) most.toNat l) l,((runS (narrowV n given vs) most.toNat l).length:Int)) else ([],-1)
theorem iStart_l0 {k:Nat} (hk:2000003 ≤ k) {H0:Hp} {n:Int} {gs s t:Sl} {given:List Int} (hg0:Reads .i64 H0 gs given) (hg:gridOk given n=true) :
  ∀ (j i fuel:Nat) (H:Hp),i + j=given.length→j < fuel→H0 <+: H→Own 1 H0 H t ((openOf n (given.take i) ++ List.replicate j 0).map (.int .i64)) →
   ∃ H',impl_StartMasks.l0 (callF PP orc k) k fuel t gs (given.length:Int) i n gs s H=some (.sl 1 t,H')∧H0 <+: H'∧Own 1 H0 H' t ((openOf n given).map (.int .i64)):=by
 obtain ⟨hn,g2,g3⟩:=(gridOk_iff given n).1 hg
 have h16:=gridOk_len hg
 have hgl:=hg0.len
 have hol:∀ l:List Int,(openOf n l).length=l.length:=fun l=>by simp [openOf]
 intro j
 induction j with
 | zero=>
  intro i fuel H hi hf hp ho
  obtain ⟨fuel,rfl⟩:=Zs fuel (by omega)
  refine ⟨H,?_,hp,?_⟩
  ·simp (disch:=omega) only [impl_StartMasks.l0,impl_StartMasks.j2,df,Zf]
  ·rw [List.take_of_length_le (by omega)] at ho
   simpa using ho
 | succ j ih=>
  intro i fuel H hi hf hp ho
  obtain ⟨fuel,rfl⟩:=Zs fuel (by omega)
  have hi2:i < given.length:=by omega
  obtain ⟨v0,v1⟩:=g3 _ (mem_getD hi2)
  have htl:t.len=given.length:=by have:=(own_reads ho).len; simp [hol] at this; omega
  have hse:∀ v:Int,v=(if given.getD i 0 > 0 then pw (given.getD i 0) else topMask n)→(openOf n (given.take i) ++ List.replicate (j + 1) 0).set i v=openOf n (given.take (i + 1)) ++ List.replicate j 0:=fun v hv=>by
   rw [List.set_append_right _ _ (by rw [hol]; simp; omega),List.take_succ_eq_append_getElem hi2]
   unfold openOf
   rw [List.map_append,List.append_assoc,hv,List.getD_eq_getElem?_getD,List.getElem?_eq_getElem hi2]
   simp [show min i given.length=i by omega,List.replicate_succ]
  have hav:=allValues_ok (show 1 ≤ k by omega) hn H
  obtain ⟨H1,a1,a2,a3,a4⟩:=own_set1 ho hp i (by simp [hol]; omega) (topMask n)
  by_cases c:given.getD i 0 > 0
  ·obtain ⟨H2,b1,b2,b3,b4⟩:=own_set1 a3 a2 i (by simp [hol]; omega) (pw (given.getD i 0))
   have e2:((openOf n (given.take i) ++ List.replicate (j + 1) 0).set i (topMask n)).set i (pw (given.getD i 0))=openOf n (given.take (i + 1)) ++ List.replicate j 0:=by
    rw [List.set_set]; exact hse _ (by rw [if_pos c])
   rw [e2] at b3
   obtain ⟨H',d1,d2,d3⟩:=ih (i + 1) fuel H2 (by omega) (by omega) b2 b3
   push_cast at d1
   refine ⟨H',?_,d2,d3⟩
   simp (disch:=omega) only [impl_StartMasks.l0,impl_StartMasks.j1,dt,Za,Zt,Zn,Zo,AV.toI,if_true,rdn (pf_reads hp hg0),hav,a1,iN,m_shl v0,b1,wr (n:=(i:Int) + 1),d1]
  ·rw [hse _ (by rw [if_neg c])] at a3
   obtain ⟨H',d1,d2,d3⟩:=ih (i + 1) fuel H1 (by omega) (by omega) a2 a3
   push_cast at d1
   refine ⟨H',?_,d2,d3⟩
   simp (disch:=omega) only [impl_StartMasks.l0,impl_StartMasks.j1,dt,df,Za,Zt,Zf,Zn,Zo,AV.toI,if_true,rdn (pf_reads hp hg0),hav,a1,wr (n:=(i:Int) + 1),d1]
theorem implStartMasks_ok {k:Nat} (hk:2000010 ≤ k) {H:Hp} {n:Int} {gs s:Sl} {given:List Int} {rs:List R} (hz:PuzAt H n gs s given rs) :
  ∃ t H',callF PP orc k impl_StartMasks.id [.agg [.int .i64 n,.sl 1 gs,.sl 3 s]] H=some (.sl 1 t,H')∧H <+: H'∧NilOr H H' t (startV n given (rs.map R.val)):=by
 obtain ⟨k,rfl⟩:=Zs k (by omega)
 rw [impl_StartMasks.call]
 have h1:=implPuzzleValid_ok (show 2000003 ≤ k by omega) hz.n4 hz.rg hz.gl hz.rr hz.rl hz.rc
 rw [puzzle_map] at h1
 have hgl:=hz.rg.len
 unfold startV
 cases e1:puzzleV n given (rs.map R.val) with
 | false=>
  rw [e1] at h1
  rw [iN (by simp)]
  exact ⟨Sl.none,H,by simp only [impl_StartMasks.f,dt,df,bt,bf,nt,nf,Za,Zy,Zx,Zt,Zf,Zn,Zz,Zi,Zo,wr,AV.toB,AV.toI,AV.toS,if_true,h1],(List.prefix_refl _),.inl ⟨rfl,rfl⟩⟩
 | true=>
  rw [e1] at h1
  rw [ip rfl]
  have hg:=(puzzleV_grid e1).1
  have h16:=gridOk_len hg
  have hnew:=own_new 1 H ((List.replicate given.length (0:Int)).map (.int .i64)) given.length (by simp)
  obtain ⟨H',b1,b2,b3⟩:=iStart_l0 (show 2000003 ≤ k by omega) (s:=s) hz.rg hg given.length 0 k (H ++ [some (Blk.mk false ((List.replicate given.length (0:Int)).map (.int .i64)))]) (by omega) (by omega) (List.prefix_append _ _) (by
   have e:openOf n (given.take 0)=[]:=rfl
   rw [e,List.nil_append]; exact hnew)
  refine ⟨_,H',?_,b2,.inr b3⟩
  simp only [Int.natCast_zero] at b1
  simp only [impl_StartMasks.f,dt,df,bt,bf,nt,nf,Za,Zy,Zx,Zt,Zf,Zn,Zz,Zi,Zo,wr,AV.toB,AV.toI,AV.toS,if_true,h1,hgl,flat0s]
  rw [ip (by omega),b1]
/-! ### Rounds -/
def RoundTo (H0:Hp) (N:List Int→Int→List Int) (most:Nat) (a:List Int) (r:An):Prop:=
 (nextFrom N a most 1=none∧∃ H',r=some (.tup [.sl 1 Sl.none,.int .i64 0],H')∧H0 <+: H') ∨ (∃ t u H',nextFrom N a most 1=some (t,N a t)∧1 ≤ t∧r=some (.tup [.sl 1 u,.int .i64 t],H')∧H0 <+: H'∧Own 1 H0 H' u ((N a t).map (.int .i64)))
theorem nextRound_l0 {k:Nat} (hk:2000060 ≤ k) {H0:Hp} {n:Int} {gs s us:Sl} {given a:List Int} {rs:List R} (hz:PuzAt H0 n gs s given rs) (hp:puzzleV n given (rs.map R.val)=true) {most:Nat} (hm:most ≤ 4) (hu:Reads .i64 H0 us a) (hun:us.nil=false) (ha:masksOk n a=true) :
  ∀ (j t fuel:Nat) (H:Hp),t + j=most + 1→1 ≤ t→j < fuel→H0 <+: H→(∀ w:Int,1 ≤ w→w < (t:Int)→narrowV n given (rs.map R.val) a w=a) →
   RoundTo H0 (narrowV n given (rs.map R.val)) most a (impl_nextRound.l0 (callF PP orc k) k fuel us (most:Int) (t:Int) n gs s H):=by
 have hgood:=narrow_good hp hm
 obtain ⟨q1,q2,q3⟩:=dm_of ha
 intro j
 induction j with
 | zero=>
  intro t fuel H ht ht1 hf hpf hw
  obtain ⟨fuel,rfl⟩:=Zs fuel (by omega)
  left
  refine ⟨(next_none most 1).2 fun w w1 w2=>hw w w1 (by omega),H,?_,hpf⟩
  simp (disch:=omega) only [impl_nextRound.l0,impl_nextRound.j1,df,Zf]
 | succ j ih=>
  intro t fuel H ht ht1 hf hpf hw
  obtain ⟨fuel,rfl⟩:=Zs fuel (by omega)
  obtain ⟨v,H1,a1,a2,a3⟩:=implNarrowBy_ok hk (hz.pf hpf) (pf_reads hpf hu) hun (by omega) q3 (t:Int)
  have hg:=hgood a t ha (by omega) (by omega)
  obtain ⟨r1,r2,r3⟩:=dm_of hg.1
  have h2:=Equal_ok (show 2000000 ≤ k by omega) a3.reads (pf_reads a2 (pf_reads hpf hu)) (by omega) (by omega)
  by_cases c:narrowV n given (rs.map R.val) a t=a
  ·rw [decide_eq_true c] at h2
   have:=ih (t + 1) fuel H1 (by omega) (by omega) (by omega) (hpf.trans a2) (fun w w1 w2=>by
    by_cases e:w=t
    ·rw [e]; exact c
    ·exact hw w w1 (by omega))
   push_cast at this
   simp (disch:=omega) only [impl_nextRound.l0,dt,Zt,Zf,Zy,a1,h2,Zo,AV.toS,AV.toB,if_true,wr (n:=(t:Int) + 1)]
   exact this
  ·rw [decide_eq_false c] at h2
   right
   have hne:narrowV n given (rs.map R.val) a t ≠ []:=fun e=>by rw [e] at r2; simp at r2
   have ho:Own 1 H H1 v ((narrowV n given (rs.map R.val) a t).map (.int .i64)):=by
    rcases a3 with ⟨_,h⟩ | h
    ·exact absurd h hne
    ·exact h
   refine ⟨t,v,H1,next_at most 1 t (by omega) (by omega) (fun w w1 w2=>hw w w1 (by omega)) c,by omega,?_,hpf.trans a2,own_base ho hpf⟩
   simp (disch:=omega) only [impl_nextRound.l0,dt,Zt,Zx,a1,h2,Zo,AV.toS,AV.toB,if_true]
theorem nextRound_ok {k:Nat} (hk:2000061 ≤ k) {H:Hp} {n:Int} {gs s us:Sl} {given a:List Int} {rs:List R} (hz:PuzAt H n gs s given rs) (hp:puzzleV n given (rs.map R.val)=true) {most:Nat} (hm:most ≤ 4) (hu:Reads .i64 H us a) (hun:us.nil=false) (ha:masksOk n a=true) :
  RoundTo H (narrowV n given (rs.map R.val)) most a (callF PP orc k impl_nextRound.id [.agg [.int .i64 n,.sl 1 gs,.sl 3 s],.sl 1 us,.int .i64 (most:Int)] H):=by
 obtain ⟨k,rfl⟩:=Zs k (by omega)
 rw [impl_nextRound.call]
 exact nextRound_l0 (by omega) hz hp hm hu hun ha most 1 k H (by omega) (by omega) (by omega) (List.prefix_refl _) (fun w w1 w2=>by omega)
theorem iAll_l2 {k:Nat} (hk:2000061 ≤ k) {H0:Hp} {n:Int} {gs s:Sl} {given:List Int} {rs:List R} (hz:PuzAt H0 n gs s given rs) (hp:puzzleV n given (rs.map R.val)=true) {most:Nat} (hm:most ≤ 4) :
  ∀ (m fuel:Nat) (H:Hp) (u:Sl) (a:List Int) (r:Nat),total a ≤ m→m < fuel→H0 <+: H→Own 1 H0 H u (a.map (.int .i64))→masksOk n a=true→r + total a ≤ 1000 →
   ∃ u' H',impl_NarrowAll.l2 (callF PP orc k) k fuel (most:Int) u (r:Int) n gs s H=some (.tup [.sl 1 u',.int .i64 ((r + (runS (narrowV n given (rs.map R.val)) most a).length:Nat):Int)],H')∧H0 <+: H'∧Own 1 H0 H' u' ((lastV (runS (narrowV n given (rs.map R.val)) most a) a).map (.int .i64)):=by
 have hgood:=narrow_good hp hm
 intro m
 induction m with
 | zero=>
  intro fuel H u a r h1 hf hpf ho ha hr
  obtain ⟨fuel,rfl⟩:=Zs fuel (by omega)
  rcases nextRound_ok hk (hz.pf hpf) hp hm (own_reads ho) ho.nn ha with ⟨hno,H',a1,a2⟩ | ⟨t,v,H1,hso,ht,a1,a2,a3⟩
  ·rw [runS_none hno]
   refine ⟨u,H',?_,hpf.trans a2,own_pf ho a2⟩
   simp only [impl_NarrowAll.l2,a1,Zo,AV.isTup,AV.nth,AV.toI,AV.toS,Zl,Zm,Zc,Zd,if_true,beq_self_eq_true,Zt,Nat.add_zero]
  ·have:=(next_good hgood ha hso).2.2
   omega
 | succ m ih=>
  intro fuel H u a r h1 hf hpf ho ha hr
  obtain ⟨fuel,rfl⟩:=Zs fuel (by omega)
  rcases nextRound_ok hk (hz.pf hpf) hp hm (own_reads ho) ho.nn ha with ⟨hno,H',a1,a2⟩ | ⟨t,v,H1,hso,ht,a1,a2,a3⟩
  ·rw [runS_none hno]
   refine ⟨u,H',?_,hpf.trans a2,own_pf ho a2⟩
   simp only [impl_NarrowAll.l2,a1,Zo,AV.isTup,AV.nth,AV.toI,AV.toS,Zl,Zm,Zc,Zd,if_true,beq_self_eq_true,Zt,Nat.add_zero]
  ·obtain ⟨g1,g2,g3⟩:=next_good hgood ha hso
   obtain ⟨u',H',b1,b2,b3⟩:=ih fuel H1 v _ (r + 1) (by omega) (by omega) (hpf.trans a2) (own_base a3 hpf) g1 (by omega)
   rw [runS_some hgood ha hso]
   push_cast at b1
   refine ⟨u',H',?_,b2,b3⟩
   simp (disch:=omega) only [impl_NarrowAll.l2,a1,Zo,AV.isTup,AV.nth,AV.toI,AV.toS,Zl,Zm,Zc,Zd,if_true,beq_self_eq_true,Zt,Zf,bf (show t ≠ 0 by omega),wr (n:=(r:Int) + 1),b1]
   congr 6
   push_cast; omega
theorem implNarrowAll_ok {k:Nat} (hk:2000070 ≤ k) {H:Hp} {n:Int} {gs s ms:Sl} {given l:List Int} {rs:List R} (hz:PuzAt H n gs s given rs) (hm:Reads .i64 H ms l) (hnn:ms.nil=false) (hl:l.length ≤ 1000) (hr:∀ m ∈ l,-2 ≤ m∧m ≤ 63) (most:Int) :
  ∃ u H',callF PP orc k impl_NarrowAll.id [.agg [.int .i64 n,.sl 1 gs,.sl 3 s],.sl 1 ms,.int .i64 most] H=some (.tup [.sl 1 u,.int .i64 (allV n given (rs.map R.val) l most).2],H')∧H <+: H'∧NilOr H H' u (allV n given (rs.map R.val) l most).1:=by
 obtain ⟨k,rfl⟩:=Zs k (by omega)
 rw [impl_NarrowAll.call]
 have hn:=hz.n4
 have h1:=implPuzzleValid_ok (show 2000003 ≤ k by omega) hz.n4 hz.rg hz.gl hz.rr hz.rl hz.rc
 rw [puzzle_map] at h1
 have h2:=implMasksValid_ok (show 2000000 ≤ k by omega) (n:=n) (by omega) hm hl hr
 unfold allV
 cases e1:puzzleV n given (rs.map R.val) with
 | false=>
  rw [e1] at h1
  rw [iN (by simp)]
  exact ⟨Sl.none,H,by simp only [impl_NarrowAll.f,impl_NarrowAll.j0,dt,df,bt,bf,nt,nf,Za,Zy,Zx,Zt,Zf,Zn,Zz,Zi,Zo,wr,AV.toB,AV.toI,AV.toS,if_true,h1],(List.prefix_refl _),.inl ⟨rfl,rfl⟩⟩
 | true=>
  rw [e1] at h1
  cases e2:masksOk n l with
  | false=>
   rw [e2] at h2
   rw [iN (by simp)]
   exact ⟨Sl.none,H,by simp only [impl_NarrowAll.f,impl_NarrowAll.j0,dt,df,bt,bf,nt,nf,Za,Zy,Zx,Zt,Zf,Zn,Zz,Zi,Zo,wr,AV.toB,AV.toI,AV.toS,if_true,h1,h2],(List.prefix_refl _),.inl ⟨rfl,rfl⟩⟩
  | true=>
   rw [e2] at h2
   by_cases c:1 ≤ most∧most ≤ 4
   ·rw [ip ⟨rfl,rfl,c⟩]
    obtain ⟨M,rfl⟩:=Int.eq_ofNat_of_zero_le (show 0 ≤ most by omega)
    have h4:=Clone_own (show 1 ≤ k by omega) hm hnn hl
    have hnew:=own_new 1 H (l.map (.int .i64)) l.length (by simp)
    have ht:=total_le e2
    obtain ⟨u',H',b1,b2,b3⟩:=iAll_l2 (show 2000061 ≤ k by omega) hz e1 (most:=M) (by omega) (total l) k (H ++ [some (Blk.mk false (l.map (.int .i64)))]) _ l 0 (by omega) (by omega) (List.prefix_append _ _) hnew e2 (by omega)
    rw [Int.toNat_natCast]
    refine ⟨u',H',?_,b2,.inr b3⟩
    rw [Nat.zero_add] at b1
    simp (disch:=omega) only [impl_NarrowAll.f,impl_NarrowAll.j0,impl_NarrowAll.j1,df,Zt,Zf,Zy,Zo,AV.toB,AV.toS,if_true,h1,h2,h4]
    exact b1
   ·rw [iN (fun h=>c ⟨h.2.2.1,h.2.2.2⟩)]
    refine ⟨Sl.none,H,?_,(List.prefix_refl _),.inl ⟨rfl,rfl⟩⟩
    by_cases c1:most < 1
    ·simp (disch:=omega) only [impl_NarrowAll.f,impl_NarrowAll.j0,dt,Zt,Zf,Zy,Zo,AV.toB,h1,h2]
    ·have c2:most > 4:=by omega
     simp (disch:=omega) only [impl_NarrowAll.f,impl_NarrowAll.j0,dt c2,df,Zt,Zf,Zy,Zo,AV.toB,h1,h2]
theorem sameInts_l0 (rec:Rec) (k:Nat) {H:Hp} {s t:Sl} {x y:List Int} (hs:Reads .i64 H s x) (ht:Reads .i64 H t y) (hl:x.length=y.length) (h1:x.length ≤ 1000) :
  ∀ (j i fuel:Nat),i + j=x.length→j < fuel→laws_sameInts.l0 rec k fuel s t i H=some (.bool (decide (x.drop i=y.drop i)),H):=by
 have hsl:=hs.len
 have htl:=ht.len
 intro j
 induction j with
 | zero=>
  intro i fuel hi hf
  obtain ⟨fuel,rfl⟩:=Zs fuel (by omega)
  rw [List.drop_eq_nil_of_le (show x.length ≤ i by omega),List.drop_eq_nil_of_le (show y.length ≤ i by omega)]
  simp (disch:=omega) only [laws_sameInts.l0,dt,df,bt,bf,nt,nf,Za,Zy,Zx,Zt,Zf,Zn,Zz,Zi,Zo,wr,AV.toB,AV.toI,AV.toS,if_true]
  rfl
 | succ j ih=>
  intro i fuel hi hf
  obtain ⟨fuel,rfl⟩:=Zs fuel (by omega)
  have hx:i < x.length:=by omega
  have hy:i < y.length:=by omega
  have ex:x.drop i=x.getD i 0 :: x.drop (i + 1):=by
   rw [List.drop_eq_getElem_cons hx,List.getD_eq_getElem?_getD,List.getElem?_eq_getElem hx]; rfl
  have ey:y.drop i=y.getD i 0 :: y.drop (i + 1):=by
   rw [List.drop_eq_getElem_cons hy,List.getD_eq_getElem?_getD,List.getElem?_eq_getElem hy]; rfl
  rw [ex,ey]
  by_cases c:x.getD i 0=y.getD i 0
  ·have d1:=ih (i + 1) fuel (by omega) (by omega)
   push_cast at d1
   rw [show decide (x.getD i 0 :: x.drop (i + 1)=y.getD i 0 :: y.drop (i + 1))=decide (x.drop (i + 1)=y.drop (i + 1)) by rw [c]; simp,← d1]
   simp (disch:=omega) only [laws_sameInts.l0,dt,df,bt,bf,nt,nf,Za,Zy,Zx,Zt,Zf,Zn,Zz,Zi,Zo,wr,AV.toB,AV.toI,AV.toS,if_true,rdn hs,rdn ht,nf]
  ·rw [show decide (x.getD i 0 :: x.drop (i + 1)=y.getD i 0 :: y.drop (i + 1))=false from decide_eq_false fun h=>c (List.cons.inj h).1]
   simp (disch:=omega) only [laws_sameInts.l0,dt,df,bt,bf,nt,nf,Za,Zy,Zx,Zt,Zf,Zn,Zz,Zi,Zo,wr,AV.toB,AV.toI,AV.toS,if_true,rdn hs,rdn ht,nt]
theorem sameInts_ok {k:Nat} (hk:2000000 ≤ k) {H:Hp} {s t:Sl} {x y:List Int} (hs:Reads .i64 H s x) (ht:Reads .i64 H t y) (h1:x.length ≤ 1000) (h2:y.length ≤ 1000) :
  callF PP orc k laws_sameInts.id [.sl 1 s,.sl 1 t] H=some (.bool (decide (x=y)),H):=by
 obtain ⟨k,rfl⟩:=Zs k (by omega)
 rw [laws_sameInts.call]
 have hsl:=hs.len
 have htl:=ht.len
 by_cases c:x.length=y.length
 ·have d1:=sameInts_l0 (callF PP orc k) k hs ht c h1 x.length 0 k (by omega) (by omega)
  simp only [Int.natCast_zero,List.drop_zero] at d1
  rw [← d1]
  simp (disch:=omega) only [laws_sameInts.f,dt,df,bt,bf,nt,nf,Za,Zy,Zx,Zt,Zf,Zn,Zz,Zi,Zo,wr,AV.toB,AV.toI,AV.toS,if_true]
 ·rw [decide_eq_false (fun h=>c (congrArg List.length h))]
  simp (disch:=omega) only [laws_sameInts.f,dt,df,bt,bf,nt,nf,Za,Zy,Zx,Zt,Zf,Zn,Zz,Zi,Zo,wr,AV.toB,AV.toI,AV.toS,if_true]
theorem same_ok {k:Nat} (hk:2000000 ≤ k) {H:Hp} {s t:Sl} {x:List Int} (hs:Reads .i64 H s x) (ht:Reads .i64 H t x) (h1:x.length ≤ 1000) :
  callF PP orc k laws_sameInts.id [.sl 1 s,.sl 1 t] H=some (.bool true,H):=by
 rw [sameInts_ok hk hs ht h1 h1,decide_eq_true rfl]
theorem wdivm {a u:Nat} (N:Nat) (hN:2 ≤ N∧N ≤ 4) (ha:a < N * N) (hu:u < N):IntKind.i64.wrap (IntKind.i64.wrap (IntKind.i64.wrap ((a:Int).tdiv (N:Int)) * (N:Int)) + (u:Int))=((a / N * N + u:Nat):Int)∧IntKind.i64.wrap (IntKind.i64.wrap ((u:Int) * (N:Int)) + (a:Int).tmod (N:Int))=((u * N + a % N:Nat):Int)∧a / N * N + u < N * N∧u * N + a % N < N * N:=by
 have e1:((a:Int)).tdiv (N:Int)=((a / N:Nat):Int):=rfl
 have e2:((a:Int)).tmod (N:Int)=((a % N:Nat):Int):=rfl
 rw [e1,e2]
 have:N=2 ∨ N=3 ∨ N=4:=by omega
 rcases this with rfl | rfl | rfl
 all_goals
  refine ⟨?_,?_,by omega,by omega⟩
  ·rw [wr (n:=((a / _:Nat):Int)) (by omega) (by omega),wr (n:=((a / _:Nat):Int) * _) (by omega) (by omega),wr (by omega) (by omega)]; omega
  ·rw [wr (n:=(u:Int) * _) (by omega) (by omega),wr (by omega) (by omega)]; omega
theorem cellFits_l5 {k:Nat} (hk:2000041 ≤ k) {H0:Hp} {n:Int} {gs s xs:Sl} {given g:List Int} {rs:List R} (hz:PuzAt H0 n gs s given rs) (hro:∀ r ∈ rs,R.ok n r=true) (hx:Reads .i64 H0 xs g) (hg:gridOk g n=true) {at':Nat} :
  ∀ (j i fuel:Nat) (H:Hp),i + j=rs.length→j < fuel→H0 <+: H→∃ H',impl_cellFits.l5 (callF PP orc k) k fuel xs at' n s rs.length i H=some (.bool (((rs.drop i).map R.val).all fun r=>!r.2.1.contains (at':Int) || canHoldV n g r),H')∧H0 <+: H':=by
 have hlen:=hz.rr.len
 have hrl:=hz.rl
 intro j
 induction j with
 | zero=>
  intro i fuel H hi hf hp
  obtain ⟨fuel,rfl⟩:=Zs fuel (by omega)
  refine ⟨H,?_,hp⟩
  rw [List.drop_eq_nil_of_le (by omega),List.map_nil,List.all_nil]
  simp (disch:=omega) only [impl_cellFits.l5,dt,df,bt,bf,nt,nf,Za,Zy,Zx,Zt,Zf,Zn,Zz,Zi,Zo,wr,AV.toB,AV.toI,AV.toS,if_true]
 | succ j ih=>
  intro i fuel H hi hf hp
  obtain ⟨fuel,rfl⟩:=Zs fuel (by omega)
  have hi2:i < rs.length:=by omega
  obtain ⟨l0,l1,l2⟩:=rules_at1 (pf_readsR hp hz.rr) i hi2
  have hmem:=List.getElem_mem hi2
  have hcs:=pf_reads hp (hz.rr.cs i hi2)
  have hct:=Contains_ok (show 2000001 ≤ k by omega) (at':Int) hcs (by have:=hz.rc _ hmem; omega)
  rw [List.drop_eq_getElem_cons hi2,List.map_cons,List.all_cons]
  have e2:rs[i].val.2.1=rs[i].cells:=rfl
  rw [e2]
  cases c1:rs[i].cells.contains (at':Int) with
  | false=>
   rw [c1] at hct
   obtain ⟨H',b1,b2⟩:=ih (i + 1) fuel H (by omega) (by omega) hp
   push_cast at b1
   refine ⟨H',?_,b2⟩
   simp (disch:=omega) only [impl_cellFits.l5,impl_cellFits.j7,impl_cellFits.j8,dt,df,bt,bf,nt,nf,Za,Zy,Zx,Zt,Zf,Zn,Zz,Zi,Zo,wr,AV.toB,AV.toI,AV.toS,if_true,l0,l1,l2,hct,b1,Bool.true_or,Bool.true_and]
  | true=>
   rw [c1] at hct
   obtain ⟨H1,a1,a2⟩:=canHold_ok hk hcs (pf_reads hp hx) (hro _ hmem) hg
   have e:canHoldV n g (rs[i].kind,rs[i].cells,rs[i].value)=canHoldV n g rs[i].val:=rfl
   rw [e] at a1
   cases c:canHoldV n g rs[i].val with
   | true=>
    rw [c] at a1
    obtain ⟨H',b1,b2⟩:=ih (i + 1) fuel H1 (by omega) (by omega) (hp.trans a2)
    push_cast at b1
    refine ⟨H',?_,b2⟩
    simp (disch:=omega) only [impl_cellFits.l5,impl_cellFits.j7,impl_cellFits.j8,dt,df,bt,bf,nt,nf,Za,Zy,Zx,Zt,Zf,Zn,Zz,Zi,Zo,wr,AV.toB,AV.toI,AV.toS,if_true,l0,l1,l2,hct,a1,b1,Bool.or_true,Bool.true_and]
   | false=>
    rw [c] at a1
    refine ⟨H1,?_,hp.trans a2⟩
    simp (disch:=omega) only [impl_cellFits.l5,impl_cellFits.j7,impl_cellFits.j8,dt,df,bt,bf,nt,nf,Za,Zy,Zx,Zt,Zf,Zn,Zz,Zi,Zo,wr,AV.toB,AV.toI,AV.toS,if_true,l0,l1,l2,hct,a1,Bool.or_false,Bool.false_and]
theorem cellFits_l1 (rec:Rec) (k:Nat) (L0:Sl→Int→Int→Int→Int→Int→Sl→Sl→Hp→An) {n y0 x15:Int} {gs s xs cs:Sl} {H:Hp} {g cells:List Int} {at' q:Nat} (hc:Reads .i64 H cs cells) (hx:Reads .i64 H xs g) (ha:at' < g.length) (hq:q < 1000) (hcl:cells.length ≤ 10) (hin:∀ c ∈ cells,0 ≤ c∧c.toNat < g.length∧c < (g.length:Int)) :
  ∀ (j i fuel:Nat),i + j=cells.length→j < fuel→impl_cellFits.l1 rec k L0 fuel xs at' n x15 q cs cells.length i y0 gs s H =
   bif (cells.drop i).any (fun c=>decide (c ≠ (at':Int)) && decide (g.getD c.toNat 0=g.getD at' 0)) then some (.bool false,H) else L0 xs at' n x15 ((q:Int) + 1) y0 gs s H:=by
 have hcs:=hc.len
 have hxl:=hx.len
 have eqd:∀ a b:Int,(a == b)=decide (a=b):=fun a b=>by rw [Bool.eq_iff_iff]; simp
 intro j
 induction j with
 | zero=>
  intro i fuel hi hf
  obtain ⟨fuel,rfl⟩:=Zs fuel (by omega)
  rw [List.drop_eq_nil_of_le (by omega)]
  simp (disch:=omega) only [impl_cellFits.l1,impl_cellFits.j4,df,Zf,wr,List.any_nil]
 | succ j ih=>
  intro i fuel hi hf
  obtain ⟨fuel,rfl⟩:=Zs fuel (by omega)
  have hi2:i < cells.length:=by omega
  obtain ⟨c0,c1,c2⟩:=hin _ (mem_getD hi2)
  have hd:cells.drop i=cells.getD i 0 :: cells.drop (i + 1):=by
   rw [List.drop_eq_getElem_cons hi2,List.getD_eq_getElem?_getD,List.getElem?_eq_getElem hi2]; rfl
  have h5:=ih (i + 1) fuel (by omega) (by omega)
  push_cast at h5
  rw [hd,List.any_cons]
  by_cases cA:cells.getD i 0=(at':Int)
  ·rw [df (show ¬ cells.getD i 0 ≠ (at':Int) from fun h=>h cA),Bool.false_and,Bool.false_or]
   simp (disch:=omega) only [impl_cellFits.l1,impl_cellFits.j3,impl_cellFits.j6,dt,nf,Za,Zt,Zf,Zn,Zo,wr,rdn hc,h5]
  ·rw [dt cA,Bool.true_and]
   by_cases eA:g.getD (cells.getD i 0).toNat 0=g.getD at' 0
   ·rw [dt eA]
    simp (disch:=omega) only [impl_cellFits.l1,impl_cellFits.j3,impl_cellFits.j6,dt,nt,bt,Za,Zt,Zf,Zn,Zo,wr,rdn hc,rdn hx,Bool.true_or]
   ·rw [df eA]
    simp (disch:=omega) only [impl_cellFits.l1,impl_cellFits.j3,impl_cellFits.j6,dt,nt,bf,Za,Zt,Zf,Zn,Zo,wr,rdn hc,rdn hx,Bool.false_or,h5]
theorem cellFits_l0 {k:Nat} (hk:2000041 ≤ k) {H0:Hp} {gs s xs:Sl} {given g:List Int} {rs:List R} {N:Nat} (hz:PuzAt H0 (N:Int) gs s given rs) (hro:∀ r ∈ rs,R.ok (N:Int) r=true) (hx:Reads .i64 H0 xs g) (hg:gridOk g (N:Int)=true) {at':Nat} (ha:at' < g.length) :
  ∀ (j q fuel:Nat) (H:Hp),q + j=N→j < fuel→H0 <+: H→∃ H',impl_cellFits.l0 (callF PP orc k) k fuel xs at' N N q N gs s H=some (.bool (!cellFrom N g at' q j && (rs.map R.val).all fun r=>!r.2.1.contains (at':Int) || canHoldV N g r),H')∧H0 <+: H':=by
 have hn:=hz.n4
 have hN:2 ≤ N∧N ≤ 4:=by omega
 have hgl:=((gridOk_iff g _).1 hg).2.1
 have hgl':g.length=N * N:=by
  have:N=2 ∨ N=3 ∨ N=4:=by omega
  rcases this with rfl | rfl | rfl <;> omega
 have hxl:=hx.len
 have hsl:=hz.rr.len
 have hrl:=hz.rl
 intro j
 induction j with
 | zero=>
  intro q fuel H hq hf hp
  obtain ⟨fuel,rfl⟩:=Zs fuel (by omega)
  obtain ⟨H',b1,b2⟩:=cellFits_l5 hk hz hro hx hg (at':=at') rs.length 0 k H (by omega) (by omega) hp
  simp only [Int.natCast_zero,List.drop_zero] at b1
  refine ⟨H',?_,b2⟩
  simp (disch:=omega) only [impl_cellFits.l0,impl_cellFits.j2,dt,df,bt,bf,nt,nf,Za,Zy,Zx,Zt,Zf,Zn,Zz,Zi,Zo,wr,AV.toB,AV.toI,AV.toS,if_true,hsl,b1,cellFrom,Bool.true_and]
 | succ j ih=>
  intro q fuel H hq hf hp
  obtain ⟨fuel,rfl⟩:=Zs fuel (by omega)
  obtain ⟨w1,w2,w3,w4⟩:=wdivm N hN (a:=at') (u:=q) (by omega) (by omega)
  have q1:H <+: H ++ [some (Blk.mk false (([((at' / N * N + q:Nat):Int),((q * N + at' % N:Nat):Int)]:List Int).map (.int .i64)))]:=List.prefix_append _ _
  have hnew:=own_reads (own_new 1 H (([((at' / N * N + q:Nat):Int),((q * N + at' % N:Nat):Int)]:List Int).map (.int .i64)) 2 rfl)
  have hx1:=pf_reads (hp.trans q1) hx
  obtain ⟨H',b1,b2⟩:=ih (q + 1) fuel _ (by omega) (by omega) (hp.trans q1)
  rw [show ((q + 1:Nat):Int)=(q:Int) + 1 from rfl] at b1
  rw [cellFrom]
  generalize hA:at' / N * N + q=A at *
  generalize hB:q * N + at' % N=B at *
  have h1:=cellFits_l1 (callF PP orc k) k (impl_cellFits.l0 (callF PP orc k) k fuel) (n:=(N:Int)) (y0:=(N:Int)) (x15:=(N:Int)) (gs:=gs) (s:=s) (at':=at') (q:=q) hnew hx1 ha (by omega) (by simp) (fun c hc=>by
   simp at hc
   rcases hc with rfl | rfl
   ·exact ⟨by omega,by rw [Int.toNat_natCast]; omega,by omega⟩
   ·exact ⟨by omega,by rw [Int.toNat_natCast]; omega,by omega⟩) 2 0 k (by simp) (by omega)
  have e:(([(A:Int),(B:Int)]:List Int).drop 0).any (fun c=>decide (c ≠ (at':Int)) && decide (g.getD c.toNat 0=g.getD at' 0))=((decide (A ≠ at') && decide (g.getD A 0=g.getD at' 0)) || (decide (B ≠ at') && decide (g.getD B 0=g.getD at' 0))):=by
   have eA:decide ((A:Int) ≠ (at':Int))=decide (A ≠ at'):=decide_eq_decide.2 (by omega)
   have eB:decide ((B:Int) ≠ (at':Int))=decide (B ≠ at'):=decide_eq_decide.2 (by omega)
   simp only [List.drop_zero,List.any_cons,List.any_nil,Zn,Bool.or_false,eA,eB]
  rw [e] at h1
  simp only [List.map_cons,List.map_nil,Zl,Zm,Int.natCast_zero] at h1 b1
  have z1:((N:Int)=0)=False:=by simp; omega
  cases hc:(decide (A ≠ at') && decide (g.getD A 0=g.getD at' 0)) || (decide (B ≠ at') && decide (g.getD B 0=g.getD at' 0)) with
  | true=>
   rw [hc] at h1
   refine ⟨_,?_,hp.trans q1⟩
   rw [← Bool.or_assoc,hc]
   simp only [impl_cellFits.l0,dt (show (q:Int) < (N:Int) by omega),Zt,z1,if_false,w1,w2,hA,hB,h1,List.map_cons,List.map_nil,Bool.true_or,Zy,Bool.false_and]
  | false=>
   rw [hc] at h1
   refine ⟨H',?_,b2⟩
   rw [← Bool.or_assoc,hc]
   simp only [impl_cellFits.l0,dt (show (q:Int) < (N:Int) by omega),Zt,Zf,z1,if_false,w1,w2,hA,hB,h1,Bool.false_or,b1]
theorem cellFits_ok {k:Nat} (hk:2000042 ≤ k) {H:Hp} {n:Int} {gs s xs:Sl} {given g:List Int} {rs:List R} (hz:PuzAt H n gs s given rs) (hro:∀ r ∈ rs,R.ok n r=true) (hx:Reads .i64 H xs g) (hg:gridOk g n=true) {at':Nat} (ha:at' < g.length) :
  ∃ H',callF PP orc k impl_cellFits.id [.agg [.int .i64 n,.sl 1 gs,.sl 3 s],.sl 1 xs,.int .i64 (at':Int)] H=some (.bool (cellFitsV n (rs.map R.val) g at'),H')∧H <+: H':=by
 obtain ⟨k,rfl⟩:=Zs k (by omega)
 rw [impl_cellFits.call]
 have hn:=hz.n4
 obtain ⟨N,rfl⟩:=Int.eq_ofNat_of_zero_le (show 0 ≤ n by omega)
 obtain ⟨H',a1,a2⟩:=cellFits_l0 (show 2000041 ≤ k by omega) hz hro hx hg ha N 0 k H (by omega) (by omega) (List.prefix_refl _)
 exact ⟨H',a1,a2⟩
end Go.Proofs.Ytchliocobgkmbaa.Rp
