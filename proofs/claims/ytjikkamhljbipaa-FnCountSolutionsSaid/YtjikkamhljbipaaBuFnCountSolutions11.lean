/- Texts for the row of the law FnCountSolutions, part 11: the plain machine, the program's functions on it, what they come to. No conditions. -/
import Derived.Test.YtjikkamhljbipaaBuFnCountSolutions9
import Derived.Test.YtjikkamhljbipaaBuFnCountSolutions6
import Derived.Test.YtjikkamhljbipaaBuFnCountSolutions10
import Derived.Test.YtjikkamhljbipaaBuFnCountSolutions7
set_option linter.unusedVariables false
set_option linter.unusedSimpArgs false
namespace Go.Proofs.Ytjikkamhljbipaa.Rp
open Go Go.RowKit Go.Proofs.Ytjikkamhljbipaa.Ab
theorem orFrom_has {vals:List Int} (hv:Vals vals):∀ (j i:Nat) {fl:List Int},Ms fl→i + j=vals.length→vals.length ≤ fl.length→∀ x v:Nat,has ((orFrom vals fl i j).getD x 0) v=true ↔ has (fl.getD x 0) v=true ∨ (i ≤ x∧x < i + j∧vals.getD x 0=(v:Int))
 | 0,i,fl,h,_,_,x,v=>by rw [orFrom]; constructor; exact .inl; rintro (h | h); exact h; omega
 | j + 1,i,fl,h,hi,hl,x,v=>by
  have hM:=M.pw (hv.at i).1 (hv.at i).2
  rw [orFrom,orFrom_has hv j (i + 1) (h.set i (M.or (h.at i) hM)) (by omega) (by simpa using hl)]
  by_cases e:x=i
  ·subst e
   have:(fl.set x (mOr (fl.getD x 0) (pw (vals.getD x 0)))).getD x 0=mOr (fl.getD x 0) (pw (vals.getD x 0)):=by
    rw [List.getD_eq_getElem?_getD,List.getElem?_set_self (by omega)]; rfl
   rw [this,has_or,has_pw (hv.at x).1]
   simp only [Bool.or_eq_true,decide_eq_true_eq]
   constructor
   ·rintro ((h | h) | h)
    ·exact .inl h
    ·exact .inr ⟨by omega,by omega,h.symm⟩
    ·omega
   ·rintro (h | h)
    ·exact .inl (.inl h)
    ·exact .inl (.inr h.2.2.symm)
  ·have:(fl.set i (mOr (fl.getD i 0) (pw (vals.getD i 0)))).getD x 0=fl.getD x 0:=by
    rw [List.getD_eq_getElem?_getD,List.getElem?_set_ne (Ne.symm e),← List.getD_eq_getElem?_getD]
   rw [this]
   constructor
   ·rintro (h | h)
    ·exact .inl h
    ·exact .inr ⟨by omega,by omega,h.2.2⟩
   ·rintro (h | h)
    ·exact .inl h
    ·exact .inr ⟨by omega,by omega,h.2.2⟩
def AllIn:List Int→List Int→Prop
 | [],[]=>True
 | m :: ms,w :: ws=>w ∈ maskVals m∧AllIn ms ws
 | _,_=>False
theorem AllIn.len:∀ {ms ws:List Int},AllIn ms ws→ws.length=ms.length
 | [],[],_=>rfl
 | _ :: _,_ :: _,h=>by simp [AllIn.len h.2]
 | [],_ :: _,h=>h.elim
 | _ :: _,[],h=>h.elim
theorem AllIn.vals:∀ {ms ws:List Int},AllIn ms ws→∀ w ∈ ws,1 ≤ w∧w ≤ 4
 | [],[],_,w,hw=>by cases hw
 | _ :: _,_ :: _,h,w,hw=>by
  rcases List.mem_cons.1 hw with e | e
  ·rw [e]; exact maskVals_mem h.1
  ·exact AllIn.vals h.2 w e
 | [],_ :: _,h,_,_=>h.elim
 | _ :: _,[],h,_,_=>h.elim
theorem ways_has (h:List Int→Bool):∀ (ms vals fl:List Int),Vals vals→vals.length + ms.length ≤ 4→Ms fl→vals.length + ms.length ≤ fl.length→∀ x v:Nat,x < vals.length + ms.length →
  (has ((ways h ms vals fl).getD x 0) v=true ↔ has (fl.getD x 0) v=true ∨ ∃ ws,AllIn ms ws∧h (vals ++ ws)=true∧(vals ++ ws).getD x 0=(v:Int))
 | [],vals,fl,hv,hl4,hf,hl,x,v,hx=>by
  simp only [Zm,Nat.add_zero] at hx hl
  have key:(∃ ws,AllIn [] ws∧h (vals ++ ws)=true∧(vals ++ ws).getD x 0=(v:Int)) ↔ (h vals=true∧vals.getD x 0=(v:Int)):=by
   constructor
   ·rintro ⟨ws,h1,h2,h3⟩
    cases ws with
    | nil=>rw [List.append_nil] at h2 h3; exact ⟨h2,h3⟩
    | cons w ws=>exact h1.elim
   ·rintro ⟨h1,h2⟩
    exact ⟨[],trivial,by rw [List.append_nil]; exact h1,by rw [List.append_nil]; exact h2⟩
  rw [key,ways]
  split
  ·rename_i hh
   unfold orAll
   rw [orFrom_has hv vals.length 0 hf (by omega) hl]
   constructor
   ·rintro (a | a)
    ·exact .inl a
    ·exact .inr ⟨hh,a.2.2⟩
   ·rintro (a | a)
    ·exact .inl a
    ·exact .inr ⟨by omega,by omega,a.2⟩
  ·rename_i hh
   constructor
   ·exact .inl
   ·rintro (a | a)
    ·exact a
    ·exact absurd a.1 hh
 | m :: ms,vals,fl,hv,hl4,hf,hl,x,v,hx=>by
  simp only [Zl] at hl4 hl hx
  have key:∀ (L:List Int) (fl:List Int),(∀ w ∈ L,1 ≤ w∧w ≤ 4)→Ms fl→vals.length + ms.length + 1 ≤ fl.length →
    (has ((L.foldl (fun f v=>ways h ms (vals ++ [v]) f) fl).getD x 0) v=true ↔ has (fl.getD x 0) v=true ∨ ∃ w ∈ L,∃ ws,AllIn ms ws∧h (vals ++ w :: ws)=true∧(vals ++ w :: ws).getD x 0=(v:Int)):=by
   intro L
   induction L with
   | nil=>intro fl _ _ _; simp
   | cons w L ih=>
    intro fl hL hf hl
    have hw:=hL w (by simp)
    have hv1:=hv.app (show vals.length < 4 by omega) (v:=w) ⟨by omega,hw.2⟩
    have w1:=ways_ok h ms (vals ++ [w]) fl hv1 (by simp; omega) hf
    have w2:=ways_has h ms (vals ++ [w]) fl hv1 (by simp; omega) hf (by simp; omega) x v (by simp; omega)
    rw [List.foldl_cons,ih _ (fun y hy=>hL y (by simp [hy])) w1.1 (by rw [w1.2]; exact hl),w2]
    simp only [List.append_assoc,List.singleton_append]
    constructor
    ·rintro ((a | ⟨ws,a⟩) | ⟨y,hy,ws,a⟩)
     ·exact .inl a
     ·exact .inr ⟨w,by simp,ws,a⟩
     ·exact .inr ⟨y,by simp [hy],ws,a⟩
    ·rintro (a | ⟨y,hy,ws,a⟩)
     ·exact .inl (.inl a)
     ·rcases List.mem_cons.1 hy with e | e
      ·subst e; exact .inl (.inr ⟨ws,a⟩)
      ·exact .inr ⟨y,e,ws,a⟩
  rw [ways,key (maskVals m) fl (fun w hw=>maskVals_mem hw) hf (by omega)]
  constructor
  ·rintro (a | ⟨w,hw,ws,a1,a2,a3⟩)
   ·exact .inl a
   ·exact .inr ⟨w :: ws,⟨hw,a1⟩,a2,a3⟩
  ·rintro (a | ⟨ws,a1,a2,a3⟩)
   ·exact .inl a
   ·cases ws with
    | nil=>exact a1.elim
    | cons w ws=>exact .inr ⟨w,a1.1,ws,a1.2,a2,a3⟩
theorem has_zero (v:Nat):has 0 v=false:=by unfold has; simp
theorem ruleMasks_has {kind value:Int} {own:List Int} (hl:own.length ≤ 4) (x v:Nat) (hx:x < own.length) :
  has ((ruleMasksV kind value own).getD x 0) v=true ↔ ∃ ws,AllIn own ws∧holdsV kind value ws=true∧ws.getD x 0=(v:Int):=by
 unfold ruleMasksV
 rw [ways_has _ own [] _ ⟨by simp,fun v hv=>by cases hv⟩ (by simpa using hl) (Ms.zeros _) (by simp) x v (by simpa using hx)]
 have e:(List.replicate own.length (0:Int)).getD x 0=0:=by simp [List.getD_eq_getElem?_getD,hx]
 rw [e,has_zero]
 simp
theorem ruleMasks_ok {kind value:Int} {own:List Int} (hl:own.length ≤ 4):Ms (ruleMasksV kind value own)∧(ruleMasksV kind value own).length=own.length:=by
 have:=ways_ok (holdsV kind value) own [] (List.replicate own.length 0) ⟨by simp,fun v hv=>by cases hv⟩ (by simpa using hl) (Ms.zeros _)
 exact ⟨this.1,this.2.trans (by simp)⟩
theorem ne_zero_has {m:Int} (hm:M m):m ≠ 0 ↔ ∃ v:Nat,has m v=true:=by
 constructor
 ·intro h
  apply Classical.byContradiction
  intro hc
  apply h
  refine m_ext hm ⟨by decide,by decide⟩ fun v _=>?_
  rw [has_zero]
  cases e:has m v with
  | false=>rfl
  | true=>exact absurd ⟨v,e⟩ hc
 ·rintro ⟨v,hv⟩ e
  rw [e,has_zero] at hv; cases hv
theorem head_getD (l:List Int):l.headD 0=l.getD 0 0:=by cases l <;> rfl
theorem canHold_iff {n:Int} {g:List Int} {r:V} (h1:1 ≤ r.2.1.length) (h4:r.2.1.length ≤ 4):canHoldV n g r=true ↔ ∃ ws,AllIn (ownOf (openOf n g) r.2.1) ws∧holdsV r.1 r.2.2 ws=true:=by
 unfold canHoldV
 have hl:(ownOf (openOf n g) r.2.1).length=r.2.1.length:=by simp [ownOf]
 have ho:=ruleMasks_ok (kind:=r.1) (value:=r.2.2) (own:=ownOf (openOf n g) r.2.1) (by omega)
 rw [bne_iff_ne,head_getD,ne_zero_has (ho.1.at 0)]
 constructor
 ·rintro ⟨v,hv⟩
  obtain ⟨ws,a,b,_⟩:=(ruleMasks_has (by omega) 0 v (by omega)).1 hv
  exact ⟨ws,a,b⟩
 ·rintro ⟨ws,a,b⟩
  have hwl:=a.len
  have hw:=a.vals _ (mem_getD (show 0 < ws.length by omega))
  refine ⟨(ws.getD 0 0).toNat,(ruleMasks_has (by omega) 0 _ (by omega)).2 ⟨ws,a,b,by omega⟩⟩
def Le (g' g:List Int):Prop:=g'.length=g.length∧∀ i:Nat,g'.getD i 0=0 ∨ g'.getD i 0=g.getD i 0
theorem Le.refl (g:List Int):Le g g:=⟨rfl,fun _=>.inr rfl⟩
theorem Le.trans {a b c:List Int} (h:Le a b) (h':Le b c):Le a c:=⟨h.1.trans h'.1,fun i=>by
 rcases h.2 i with e | e
 ·exact .inl e
 ·rw [e]; exact h'.2 i⟩
theorem Le.gv {g' g:List Int} (h:Le g' g) (c:Int):gv g' c=0 ∨ gv g' c=gv g c:=h.2 c.toNat
theorem getD_set {l:List Int} {i j:Nat} {v:Int}:(l.set i v).getD j 0=if i=j∧i < l.length then v else l.getD j 0:=by
 rw [List.getD_eq_getElem?_getD,List.getElem?_set]
 by_cases e:i=j
 ·subst e
  by_cases h:i < l.length
  ·simp [h]
  ·simp [h,List.getD_eq_getElem?_getD,List.getElem?_eq_none (Nat.le_of_not_lt h)]
 ·simp [e]
theorem clashL_anti {g' g:List Int} (h:Le g' g):∀ (cells s' s:List Int),(∀ v,0 < v→v ∈ s'→v ∈ s)→clashL g' cells s'=true→clashL g cells s=true
 | [],s',s,_,hc=>by cases hc
 | c :: cs,s',s,hs,hc=>by
  rw [clashL] at hc ⊢
  rw [Bool.or_eq_true,Bool.and_eq_true,decide_eq_true_eq,List.contains_iff_mem] at hc ⊢
  rcases h.gv c with e | e
  ·rcases hc with ⟨a,_⟩ | a
   ·omega
   ·refine .inr (clashL_anti h cs _ _ (fun v hv hm=>?_) a)
    rw [e] at hm
    rcases List.mem_cons.1 hm with e' | e'
    ·omega
    ·exact List.mem_cons_of_mem _ (hs v hv e')
  ·rw [e] at hc
   rcases hc with ⟨a,b⟩ | a
   ·exact .inl ⟨a,hs _ a b⟩
   ·refine .inr (clashL_anti h cs _ _ (fun v hv hm=>?_) a)
    rcases List.mem_cons.1 hm with e' | e'
    ·rw [e']; exact List.mem_cons_self
    ·exact List.mem_cons_of_mem _ (hs v hv e')
theorem clashFrom_anti {g' g:List Int} (h:Le g' g) (n:Int):∀ (j line:Nat),clashFrom g' n line j=true→clashFrom g n line j=true
 | 0,_,hc=>by cases hc
 | j + 1,line,hc=>by
  rw [clashFrom,Bool.or_eq_true] at hc ⊢
  rcases hc with a | a
  ·exact .inl (clashL_anti h _ _ _ (fun v _ hm=>hm) a)
  ·exact .inr (clashFrom_anti h n j (line + 1) a)
theorem clash_anti {g' g:List Int} (h:Le g' g) (n:Int) (hc:clash g n=false):clash g' n=false:=by
 cases e:clash g' n with
 | false=>rfl
 | true=>
  have:clash g n=true:=clashFrom_anti h n _ _ e
  rw [this] at hc; cases hc
theorem compatFrom_iff (a g:List Int):∀ (j i:Nat),compatFrom a g i j=true ↔ ∀ x,i ≤ x→x < i + j→a.getD x 0 > 0→g.getD x 0 > 0→g.getD x 0=a.getD x 0
 | 0,i=>by simp [compatFrom]; intro x h1 h2; omega
 | j + 1,i=>by
  rw [compatFrom,Bool.and_eq_true,compatFrom_iff a g j (i + 1)]
  simp only [Bool.not_eq_true',Bool.and_eq_false_iff,decide_eq_false_iff_not,bne_eq_false_iff_eq]
  constructor
  ·rintro ⟨h1,h2⟩ x hx1 hx2 ha hg
   by_cases e:x=i
   ·subst e
    rcases h1 with h1 | h1 | h1
    ·omega
    ·omega
    ·exact h1
   ·exact h2 x (by omega) (by omega) ha hg
  ·intro h
   refine ⟨?_,fun x h1 h2=>h x (by omega) (by omega)⟩
   by_cases h1:a.getD i 0 > 0
   ·by_cases h2:g.getD i 0 > 0
    ·exact .inr (.inr (h i (by omega) (by omega) h1 h2))
    ·exact .inr (.inl h2)
   ·exact .inl h1
theorem compatB_iff (a g:List Int):compatB a g=true ↔ ∀ x,x < g.length→a.getD x 0 > 0→g.getD x 0 > 0→g.getD x 0=a.getD x 0:=by
 unfold compatB
 rw [compatFrom_iff]
 constructor
 ·intro h x hx; exact h x (by omega) (by omega)
 ·intro h x _ hx; exact h x (by omega)
theorem AllIn.mono:∀ {ms ms' ws:List Int},ms.length=ms'.length→(∀ i,i < ms.length→∀ w,w ∈ maskVals (ms.getD i 0)→w ∈ maskVals (ms'.getD i 0))→AllIn ms ws→AllIn ms' ws
 | [],[],[],_,_,_=>trivial
 | m :: ms,m' :: ms',w :: ws,hl,hs,h=>⟨hs 0 (by simp) w h.1,AllIn.mono (by simpa using hl) (fun i hi w hw=>hs (i + 1) (by simpa using hi) w hw) h.2⟩
 | [],_ :: _,_,hl,_,_=>by simp at hl
 | _ :: _,[],_,hl,_,_=>by simp at hl
 | [],[],_ :: _,_,_,h=>h.elim
 | _ :: _,_ :: _,[],_,_,h=>h.elim
theorem tab_open:∀ n:Int,2 ≤ n∧n ≤ 4→(∀ v:Int,1 ≤ v∧v ≤ n→maskVals (pw v)=[v])∧maskVals (topMask n)=upto n.toNat 1:=by
 intro n hn
 have:n=2 ∨ n=3 ∨ n=4:=by omega
 rcases this with rfl | rfl | rfl
 all_goals
  refine ⟨fun v hv=>?_,by decide⟩
  have:v=1 ∨ v=2 ∨ v=3 ∨ v=4:=by omega
  rcases this with rfl | rfl | rfl | rfl <;> first | omega | decide
theorem mem_upto:∀ (j:Nat) (v w:Int),w ∈ upto j v ↔ v ≤ w∧w < v + j
 | 0,v,w=>by
  constructor
  ·intro h; cases h
  ·intro h; omega
 | j + 1,v,w=>by rw [upto,List.mem_cons,mem_upto j]; push_cast; omega
theorem openOf_at {n:Int} {g:List Int} {i:Nat} (hi:i < g.length):(openOf n g).getD i 0=if g.getD i 0 > 0 then pw (g.getD i 0) else topMask n:=by
 unfold openOf
 rw [List.getD_eq_getElem?_getD,List.getElem?_map,List.getElem?_eq_getElem hi,List.getD_eq_getElem?_getD (l:=g),List.getElem?_eq_getElem hi]; rfl
theorem open_vals {n:Int} {g:List Int} (hg:gridOk g n=true) {i:Nat} (hi:i < g.length) (w:Int):w ∈ maskVals ((openOf n g).getD i 0) ↔ (1 ≤ w∧w ≤ n)∧(g.getD i 0 > 0→w=g.getD i 0):=by
 obtain ⟨hn,h2,h3⟩:=(gridOk_iff g n).1 hg
 have hv:=h3 _ (mem_getD hi)
 obtain ⟨t1,t2⟩:=tab_open n hn
 rw [openOf_at hi]
 split
 ·rename_i c
  rw [t1 _ ⟨by omega,hv.2⟩]
  simp only [List.mem_singleton]
  constructor
  ·intro e; subst e; exact ⟨⟨by omega,hv.2⟩,fun _=>rfl⟩
  ·intro h; exact h.2 c
 ·rename_i c
  rw [t2,mem_upto]
  constructor
  ·intro h; exact ⟨by omega,fun h=>absurd h c⟩
  ·intro h; omega
theorem canHold_anti {n:Int} {g' g:List Int} (h:Le g' g) (hg:gridOk g n=true) (hg':gridOk g' n=true) {r:V} (hr:ruleOkV n r=true) (hc:canHoldV n g r=true):canHoldV n g' r=true:=by
 obtain ⟨c1,c2,c3,c4⟩:=ruleOk_cells hr
 have hl:=((gridOk_iff g n).1 hg).2.1
 have hl':=h.1
 rw [canHold_iff c3 c2] at hc ⊢
 obtain ⟨ws,a,b⟩:=hc
 refine ⟨ws,a.mono (by simp [ownOf]) (fun i hi w hw=>?_),b⟩
 have hi':i < r.2.1.length:=by simpa [ownOf] using hi
 have hcc:=c1 _ (mem_getD hi')
 have e:∀ g:List Int,(ownOf (openOf n g) r.2.1).getD i 0=(openOf n g).getD (r.2.1.getD i 0).toNat 0:=fun g=>by
  unfold ownOf
  rw [List.getD_eq_getElem?_getD,List.getElem?_map,List.getElem?_eq_getElem hi',List.getD_eq_getElem?_getD (l:=r.2.1),List.getElem?_eq_getElem hi']; rfl
 rw [e] at hw ⊢
 have hlt:(r.2.1.getD i 0).toNat < g.length:=by omega
 rw [open_vals hg hlt] at hw
 rw [open_vals hg' (by omega)]
 refine ⟨hw.1,fun h1=>?_⟩
 rcases h.2 (r.2.1.getD i 0).toNat with e1 | e1
 ·omega
 ·rw [e1] at h1 ⊢; exact hw.2 h1
theorem grid_le {n:Int} {g' g:List Int} (h:Le g' g) (hg:gridOk g n=true):gridOk g' n=true:=by
 obtain ⟨hn,h2,h3⟩:=(gridOk_iff g n).1 hg
 refine (gridOk_iff g' n).2 ⟨hn,by rw [h.1]; exact h2,fun v hv=>?_⟩
 obtain ⟨i,hi,rfl⟩:=List.getElem_of_mem hv
 have e:g'.getD i 0=g'[i]:=by simp [List.getD_eq_getElem?_getD,hi]
 have hi2:i < g.length:=by rw [← h.1]; exact hi
 have:=h3 _ (mem_getD hi2)
 rcases h.2 i with e1 | e1
 ·rw [← e,e1]; omega
 ·rw [← e,e1]; exact this
theorem fits_anti {n:Int} {given:List Int} {vs:List V} {g' g:List Int} (h:Le g' g) (hg:gridOk g n=true) (hv:vs.all (ruleOkV n)=true) (hc:fitsV n given vs g=true):fitsV n given vs g'=true:=by
 unfold fitsV at hc ⊢
 simp only [Bool.and_eq_true,List.all_eq_true,Bool.not_eq_true'] at hc hv ⊢
 refine ⟨?_,fun r hr=>canHold_anti h hg (grid_le h hg) (hv r hr) (hc.2.1 r hr),clash_anti h n hc.2.2⟩
 rw [compatB_iff] at hc ⊢
 intro x hx ha hg1
 rcases h.2 x with e | e
 ·omega
 ·rw [e] at hg1 ⊢; exact hc.1 x (by rw [← h.1]; exact hx) ha hg1
theorem zt2:(2:Int).toNat=2:=rfl
theorem zt3:(3:Int).toNat=3:=rfl
theorem zt4:(4:Int).toNat=4:=rfl
theorem clashL_iff (g:List Int):∀ (cells seen:List Int),clashL g cells seen=true ↔ ∃ i,i < cells.length∧0 < gv g (cells.getD i 0)∧(gv g (cells.getD i 0) ∈ seen ∨ ∃ j,j < i∧gv g (cells.getD j 0)=gv g (cells.getD i 0))
 | [],seen=>by simp [clashL]
 | c :: cs,seen=>by
  rw [clashL,Bool.or_eq_true,Bool.and_eq_true,decide_eq_true_eq,List.contains_iff_mem,clashL_iff g cs]
  constructor
  ·rintro (⟨h1,h2⟩ | ⟨i,hi,h1,h2⟩)
   ·exact ⟨0,by simp,h1,.inl h2⟩
   ·refine ⟨i + 1,by simpa using hi,h1,?_⟩
    rcases h2 with h2 | ⟨j,hj,h2⟩
    ·rcases List.mem_cons.1 h2 with e | e
     ·exact .inr ⟨0,by omega,e.symm⟩
     ·exact .inl e
    ·exact .inr ⟨j + 1,by omega,h2⟩
  ·rintro ⟨i,hi,h1,h2⟩
   cases i with
   | zero=>
    rcases h2 with h2 | ⟨j,hj,_⟩
    ·exact .inl ⟨h1,h2⟩
    ·omega
   | succ i=>
    refine .inr ⟨i,by simpa using hi,h1,?_⟩
    rcases h2 with h2 | ⟨j,hj,h2⟩
    ·exact .inl (List.mem_cons_of_mem _ h2)
    ·cases j with
     | zero=>exact .inl (by have e:gv g c=gv g (cs.getD i 0):=h2; rw [← e]; exact List.mem_cons_self)
     | succ j=>exact .inr ⟨j,by omega,h2⟩
theorem clashFrom_iff (g:List Int) (n:Int):∀ (j line:Nat),clashFrom g n line j=true ↔ ∃ ln:Nat,line ≤ ln∧ln < line + j∧clashL g (lineCells n ln) []=true
 | 0,line=>by simp [clashFrom]; omega
 | j + 1,line=>by
  rw [clashFrom,Bool.or_eq_true,clashFrom_iff g n j]
  constructor
  ·rintro (h | ⟨ln,h1,h2,h3⟩)
   ·exact ⟨line,Nat.le_refl _,by omega,h⟩
   ·exact ⟨ln,by omega,by omega,h3⟩
  ·rintro ⟨ln,h1,h2,h3⟩
   by_cases e:ln=line
   ·subst e; exact .inl h3
   ·exact .inr ⟨ln,by omega,by omega,h3⟩
def sameLine (N x y:Nat):Prop:=x / N=y / N ∨ x % N=y % N
theorem line_at {n:Int} (hn:2 ≤ n∧n ≤ 4) {ln i:Nat} (hl:(ln:Int) < 2 * n) (hi:(i:Int) < n):(lineCells n ln).getD i 0=lineCell n ln i∧(lineCells n ln).length=n.toNat:=by
 unfold lineCells
 rw [if_pos ⟨hn,by omega,hl⟩]
 refine ⟨?_,by simp⟩
 rw [List.getD_eq_getElem?_getD,List.getElem?_map,List.getElem?_range (by omega)]; rfl
theorem clash_iff {n:Int} (hn:2 ≤ n∧n ≤ 4) (g:List Int):clash g n=true ↔ ∃ x y:Nat,x < n.toNat * n.toNat∧y < n.toNat * n.toNat∧x ≠ y∧sameLine n.toNat x y∧0 < g.getD x 0∧g.getD y 0=g.getD x 0:=by
 have e0:clash g n=clashFrom g n 0 (2 * n).toNat:=rfl
 rw [e0,clashFrom_iff]
 have gvd:∀ c:Int,gv g c=g.getD c.toNat 0:=fun _=>rfl
 constructor
 ·rintro ⟨ln,_,h2,h3⟩
  have hl:(ln:Int) < 2 * n:=by omega
  rw [clashL_iff] at h3
  obtain ⟨i,hi,h4,h5⟩:=h3
  rw [(line_at hn hl (i:=0) (by omega)).2] at hi
  have hi':(i:Int) < n:=by omega
  rcases h5 with h5 | ⟨j,hj,h5⟩
  ·cases h5
  rw [(line_at hn hl hi').1,gvd] at h4 h5
  rw [(line_at hn hl (i:=j) (by omega)).1,gvd] at h5
  refine ⟨(lineCell n ln i).toNat,(lineCell n ln j).toNat,?_,?_,?_,?_,h4,h5⟩
  all_goals
   have:n=2 ∨ n=3 ∨ n=4:=by omega
   unfold lineCell
   try unfold sameLine
   rcases this with rfl | rfl | rfl
  all_goals
   split
  all_goals
   try simp only [zt2,zt3,zt4] at *
   omega
 ·rintro ⟨x,y,hx,hy,hne,hs,h1,h2⟩
  have key:∀ x y:Nat,x < n.toNat * n.toNat→y < n.toNat * n.toNat→∀ ln i j:Nat,(ln:Int) < 2 * n→(i:Int) < n→j < i→(lineCell n ln i).toNat=x→(lineCell n ln j).toNat=y→0 < g.getD x 0→g.getD y 0=g.getD x 0→∃ ln:Nat,0 ≤ ln∧ln < 0 + (2 * n).toNat∧clashL g (lineCells n ln) []=true:=by
   intro x y hx hy ln i j hl hi hj e1 e2 h1 h2
   refine ⟨ln,by omega,by omega,(clashL_iff _ _ _).2 ⟨i,by rw [(line_at hn hl hi).2]; omega,?_,.inr ⟨j,hj,?_⟩⟩⟩
   ·rw [(line_at hn hl hi).1,gvd,e1]; exact h1
   ·rw [(line_at hn hl hi).1,(line_at hn hl (i:=j) (by omega)).1,gvd,gvd,e1,e2]; exact h2
  have hrow:∀ x y:Nat,x < n.toNat * n.toNat→y < n.toNat * n.toNat→x / n.toNat=y / n.toNat→y % n.toNat < x % n.toNat→0 < g.getD x 0→g.getD y 0=g.getD x 0→∃ ln:Nat,0 ≤ ln∧ln < 0 + (2 * n).toNat∧clashL g (lineCells n ln) []=true:=by
   intro x y hx hy h3 h4 h1 h2
   refine key x y hx hy (x / n.toNat) (x % n.toNat) (y % n.toNat) ?_ ?_ h4 ?_ ?_ h1 h2
   all_goals
    have:n=2 ∨ n=3 ∨ n=4:=by omega
    try unfold lineCell
    rcases this with rfl | rfl | rfl
   all_goals
    try split
   all_goals
    try simp only [zt2,zt3,zt4] at *
    omega
  have hcol:∀ x y:Nat,x < n.toNat * n.toNat→y < n.toNat * n.toNat→x % n.toNat=y % n.toNat→y / n.toNat < x / n.toNat→0 < g.getD x 0→g.getD y 0=g.getD x 0→∃ ln:Nat,0 ≤ ln∧ln < 0 + (2 * n).toNat∧clashL g (lineCells n ln) []=true:=by
   intro x y hx hy h3 h4 h1 h2
   refine key x y hx hy (n.toNat + x % n.toNat) (x / n.toNat) (y / n.toNat) ?_ ?_ h4 ?_ ?_ h1 h2
   all_goals
    have:n=2 ∨ n=3 ∨ n=4:=by omega
    try unfold lineCell
    rcases this with rfl | rfl | rfl
   all_goals
    try split
   all_goals
    try simp only [zt2,zt3,zt4] at *
    omega
  have h2':g.getD x 0=g.getD y 0:=h2.symm
  have h1':0 < g.getD y 0:=by omega
  have hxy:x / n.toNat=y / n.toNat→x % n.toNat ≠ y % n.toNat:=fun h3 h4=>hne (by rw [← Nat.div_add_mod x n.toNat,← Nat.div_add_mod y n.toNat,h3,h4])
  rcases hs with hs | hs
  ·rcases Nat.lt_or_gt_of_ne (hxy hs) with h | h
   ·exact hrow y x hy hx hs.symm h h1' h2'
   ·exact hrow x y hx hy hs h h1 h2
  ·have:x / n.toNat ≠ y / n.toNat:=fun h=>hxy h hs
   rcases Nat.lt_or_gt_of_ne this with h | h
   ·exact hcol y x hy hx hs.symm h h1' h2'
   ·exact hcol x y hx hy hs h h1 h2
/-! ### One cell more -/
def cellFrom (N:Nat) (g:List Int) (at':Nat):Nat→Nat→Bool
 | _,0=>false
 | k,j + 1=>(decide (at' / N * N + k ≠ at') && decide (g.getD (at' / N * N + k) 0=g.getD at' 0)) || ((decide (k * N + at' % N ≠ at') && decide (g.getD (k * N + at' % N) 0=g.getD at' 0)) || cellFrom N g at' (k + 1) j)
theorem cellFrom_iff (N:Nat) (g:List Int) (at':Nat):∀ (j k:Nat),cellFrom N g at' k j=true ↔ ∃ u,k ≤ u∧u < k + j∧((at' / N * N + u ≠ at'∧g.getD (at' / N * N + u) 0=g.getD at' 0) ∨ (u * N + at' % N ≠ at'∧g.getD (u * N + at' % N) 0=g.getD at' 0))
 | 0,k=>by simp [cellFrom]; omega
 | j + 1,k=>by
  rw [cellFrom,Bool.or_eq_true,Bool.or_eq_true,Bool.and_eq_true,Bool.and_eq_true,cellFrom_iff N g at' j]
  simp only [decide_eq_true_eq]
  constructor
  ·rintro (h | h | ⟨u,h1,h2,h3⟩)
   ·exact ⟨k,Nat.le_refl _,by omega,.inl h⟩
   ·exact ⟨k,Nat.le_refl _,by omega,.inr h⟩
   ·exact ⟨u,by omega,by omega,h3⟩
  ·rintro ⟨u,h1,h2,h3⟩
   by_cases e:u=k
   ·subst e
    rcases h3 with h3 | h3
    ·exact .inl h3
    ·exact .inr (.inl h3)
   ·exact .inr (.inr ⟨u,by omega,by omega,h3⟩)
def cellFitsV (n:Int) (vs:List V) (g:List Int) (at':Nat):Bool:=!cellFrom n.toNat g at' 0 n.toNat && vs.all fun r=>!r.2.1.contains (at':Int) || canHoldV n g r
theorem cell_clash {n:Int} (hn:2 ≤ n∧n ≤ 4) {g:List Int} (hl:g.length=n.toNat * n.toNat) {at':Nat} (ha:at' < g.length) {v:Int} (hv:1 ≤ v) (hc:clash g n=false) (h0:g.getD at' 0=0):clash (g.set at' v) n=cellFrom n.toNat (g.set at' v) at' 0 n.toNat:=by
 have hat:(g.set at' v).getD at' 0=v:=by rw [getD_set,if_pos ⟨rfl,ha⟩]
 have hne:∀ x,x ≠ at'→(g.set at' v).getD x 0=g.getD x 0:=fun x hx=>by rw [getD_set,if_neg (by omega)]
 have hno:¬ ∃ x y:Nat,x < n.toNat * n.toNat∧y < n.toNat * n.toNat∧x ≠ y∧sameLine n.toNat x y∧0 < g.getD x 0∧g.getD y 0=g.getD x 0:=by
  intro h; rw [← clash_iff hn] at h; rw [h] at hc; cases hc
 rw [Bool.eq_iff_iff,clash_iff hn,cellFrom_iff,hat]
 have one:∀ x,x < n.toNat * n.toNat→x ≠ at'→sameLine n.toNat at' x→(g.set at' v).getD x 0=v→∃ u,0 ≤ u∧u < 0 + n.toNat∧((at' / n.toNat * n.toNat + u ≠ at'∧(g.set at' v).getD (at' / n.toNat * n.toNat + u) 0=v) ∨ (u * n.toNat + at' % n.toNat ≠ at'∧(g.set at' v).getD (u * n.toNat + at' % n.toNat) 0=v)):=by
  intro x hx hxa hs hgx
  rcases hs with hs | hs
  ·refine ⟨x % n.toNat,Nat.zero_le _,by have:=Nat.mod_lt x (show n.toNat > 0 by omega); omega,.inl ?_⟩
   have e:at' / n.toNat * n.toNat + x % n.toNat=x:=by rw [hs,Nat.mul_comm]; exact Nat.div_add_mod x n.toNat
   rw [e]; exact ⟨hxa,hgx⟩
  ·refine ⟨x / n.toNat,Nat.zero_le _,by have:=Nat.div_lt_of_lt_mul hx; omega,.inr ?_⟩
   have e:x / n.toNat * n.toNat + at' % n.toNat=x:=by rw [hs,Nat.mul_comm]; exact Nat.div_add_mod x n.toNat
   rw [e]; exact ⟨hxa,hgx⟩
 constructor
 ·rintro ⟨x,y,hx,hy,hxy,hs,h1,h2⟩
  by_cases ex:x=at'
  ·subst ex
   rw [hat] at h2
   exact one y hy (Ne.symm hxy) hs h2
  ·by_cases ey:y=at'
   ·subst ey
    rw [hat] at h2
    exact one x hx ex (by rcases hs with h | h; exact .inl h.symm; exact .inr h.symm) h2.symm
   ·rw [hne x ex] at h1 h2
    rw [hne y ey] at h2
    exact absurd ⟨x,y,hx,hy,hxy,hs,h1,h2⟩ hno
 ·rintro ⟨u,_,hu,h⟩
  have hdm:=Nat.div_add_mod at' n.toNat
  have hmul:n.toNat * (at' / n.toNat)=at' / n.toNat * n.toNat:=Nat.mul_comm _ _
  have:n=2 ∨ n=3 ∨ n=4:=by omega
  rcases h with ⟨h1,h2⟩ | ⟨h1,h2⟩
  ·refine ⟨at',at' / n.toNat * n.toNat + u,by omega,?_,Ne.symm h1,.inl ?_,by rw [hat]; omega,by rw [hat,h2]⟩
   all_goals
    rcases this with rfl | rfl | rfl <;> try simp only [zt2,zt3,zt4] at * <;> omega
  ·refine ⟨at',u * n.toNat + at' % n.toNat,by omega,?_,Ne.symm h1,.inr ?_,by rw [hat]; omega,by rw [hat,h2]⟩
   all_goals
    rcases this with rfl | rfl | rfl <;> try simp only [zt2,zt3,zt4] at * <;> omega
theorem own_away {n:Int} {g:List Int} {at':Nat} {v:Int} {cells:List Int} (hc:¬ (at':Int) ∈ cells) (hp:∀ c ∈ cells,0 ≤ c):ownOf (openOf n (g.set at' v)) cells=ownOf (openOf n g) cells:=by
 unfold ownOf
 refine List.map_congr_left fun c hm=>?_
 have hne:at' ≠ c.toNat:=fun e=>hc (by have:=hp c hm; rw [show (at':Int)=c by omega]; exact hm)
 unfold gv openOf
 rw [List.getD_eq_getElem?_getD,List.getD_eq_getElem?_getD,List.getElem?_map,List.getElem?_map,List.getElem?_set_ne hne]
theorem fits_step {n:Int} {given:List Int} {vs:List V} {g:List Int} (hf:fitsV n given vs g=true) (hg:gridOk g n=true) (hle:Le given g) (hgg:∀ x,0 ≤ given.getD x 0) {at':Nat} (ha:at' < g.length) (h0:g.getD at' 0=0) {v:Int} (hv:1 ≤ v∧v ≤ n) (hro:∀ r ∈ vs,ruleOkV n r=true) :
  fitsV n given vs (g.set at' v)=cellFitsV n vs (g.set at' v) at':=by
 obtain ⟨hn,h2,_⟩:=(gridOk_iff g n).1 hg
 unfold fitsV at hf ⊢
 simp only [Bool.and_eq_true,Bool.not_eq_true',List.all_eq_true] at hf
 obtain ⟨f1,f2,f3⟩:=hf
 have hl:g.length=n.toNat * n.toNat:=by
  have:n=2 ∨ n=3 ∨ n=4:=by omega
  rcases this with rfl | rfl | rfl <;> simp <;> omega
 have hc:compatB given (g.set at' v)=true:=by
  rw [compatB_iff] at f1 ⊢
  intro x hx h1 h3
  rw [getD_set] at h3 ⊢
  have hx':x < g.length:=by simpa using hx
  by_cases e:at'=x
  ·subst e
   rcases hle.2 at' with e | e <;> omega
  ·rw [if_neg (by omega)] at h3 ⊢; exact f1 x hx' h1 h3
 unfold cellFitsV
 rw [hc,Bool.true_and,cell_clash hn hl ha hv.1 f3 h0,Bool.and_comm]
 congr 1
 rw [Bool.eq_iff_iff,List.all_eq_true,List.all_eq_true]
 refine forall_congr' fun r=>forall_congr' fun hr=>?_
 by_cases hm:(at':Int) ∈ r.2.1
 ·have:r.2.1.contains (at':Int)=true:=List.contains_iff_mem.2 hm
  rw [this]; simp
 ·have:r.2.1.contains (at':Int)=false:=by rw [← Bool.not_eq_true,List.contains_iff_mem]; exact hm
  rw [this]
  have e:canHoldV n (g.set at' v) r=canHoldV n g r:=by
   unfold canHoldV
   rw [own_away hm fun c h=>((ruleOk_cells (hro r hr)).1 c h).1]
  rw [e,f2 r hr]; simp
theorem Clone_own {k:Nat} (hk:1 ≤ k) {H:Hp} {s:Sl} {l:List Int} (hs:Reads .i64 H s l) (hn:s.nil=false) (hl:l.length ≤ 1000) :
  callF PP orc k slices_Clone_int.id [.sl 1 s] H=some (.sl 1 (Sl.mk false H.length 0 l.length),H ++ [some (Blk.mk false (l.map (.int .i64)))]):=by
 obtain ⟨k,rfl⟩:=Zs k (by omega)
 rw [slices_Clone_int.call]
 simp only [slices_Clone_int.f,hn,Zf,read_ok hs,hs.len,appl_ok _ _ _ (show l.length ≤ 1000000 by omega),Zo,cells_ok,Za,Zt]
theorem wdivm {a u:Nat} (N:Nat) (hN:2 ≤ N∧N ≤ 4) (ha:a < N * N) (hu:u < N):IntKind.i64.wrap (IntKind.i64.wrap (IntKind.i64.wrap ((a:Int).tdiv (N:Int)) * (N:Int)) + (u:Int))=((a / N * N + u:Nat):Int)∧IntKind.i64.wrap (IntKind.i64.wrap ((u:Int) * (N:Int)) + (a:Int).tmod (N:Int))=((u * N + a % N:Nat):Int)∧a / N * N + u < N * N∧u * N + a % N < N * N:=by
 have e1:((a:Int)).tdiv (N:Int)=((a / N:Nat):Int):=rfl
 have e2:((a:Int)).tmod (N:Int)=((a % N:Nat):Int):=rfl
 rw [e1,e2]
 have:N=2 ∨ N=3 ∨ N=4:=by omega
 rcases this with rfl | rfl | rfl
 all_goals
  refine ⟨?_,?_,by omega,by omega⟩
  ·rw [wr (n:=((a / _:Nat):Int)) (by omega) (by omega),wr (n:=((a / _:Nat):Int) * _) (by omega) (by omega),wr (by omega) (by omega)]; omega
  ·rw [wr (n:=(u:Int) * _) (by omega) (by omega),wr (by omega) (by omega)]; omega
theorem cellFits_l5 {k:Nat} (hk:2000041 ≤ k) {H0:Hp} {n:Int} {gs s xs:Sl} {given g:List Int} {rs:List R} (hz:PuzAt H0 n gs s given rs) (hro:∀ r ∈ rs,R.ok n r=true) (hx:Reads .i64 H0 xs g) (hg:gridOk g n=true) {at':Nat} :
  ∀ (j i fuel:Nat) (H:Hp),i + j=rs.length→j < fuel→H0 <+: H→∃ H',impl_cellFits.l5 (callF PP orc k) k fuel xs at' n s rs.length i H=some (.bool (((rs.drop i).map R.val).all fun r=>!r.2.1.contains (at':Int) || canHoldV n g r),H')∧H0 <+: H':=by
 have hlen:=hz.rr.len
 have hrl:=hz.rl
 intro j
 induction j with
 | zero=>
  intro i fuel H hi hf hp
  obtain ⟨fuel,rfl⟩:=Zs fuel (by omega)
  refine ⟨H,?_,hp⟩
  rw [List.drop_eq_nil_of_le (by omega),List.map_nil,List.all_nil]
  simp (disch:=omega) only [impl_cellFits.l5,dt,df,bt,bf,nt,nf,Za,Zy,Zx,Zt,Zf,Zn,Zz,Zi,Zo,wr,AV.toB,AV.toI,AV.toS,if_true]
 | succ j ih=>
  intro i fuel H hi hf hp
  obtain ⟨fuel,rfl⟩:=Zs fuel (by omega)
  have hi2:i < rs.length:=by omega
  obtain ⟨l0,l1,l2⟩:=rules_at1 (pf_readsR hp hz.rr) i hi2
  have hmem:=List.getElem_mem hi2
  have hcs:=pf_reads hp (hz.rr.cs i hi2)
  have hct:=Contains_ok (show 2000001 ≤ k by omega) (at':Int) hcs (by have:=hz.rc _ hmem; omega)
  rw [List.drop_eq_getElem_cons hi2,List.map_cons,List.all_cons]
  have e2:rs[i].val.2.1=rs[i].cells:=rfl
  rw [e2]
  cases c1:rs[i].cells.contains (at':Int) with
  | false=>
   rw [c1] at hct
   obtain ⟨H',b1,b2⟩:=ih (i + 1) fuel H (by omega) (by omega) hp
   push_cast at b1
   refine ⟨H',?_,b2⟩
   simp (disch:=omega) only [impl_cellFits.l5,impl_cellFits.j7,impl_cellFits.j8,dt,df,bt,bf,nt,nf,Za,Zy,Zx,Zt,Zf,Zn,Zz,Zi,Zo,wr,AV.toB,AV.toI,AV.toS,if_true,l0,l1,l2,hct,b1,Bool.true_or,Bool.true_and]
  | true=>
   rw [c1] at hct
   obtain ⟨H1,a1,a2⟩:=canHold_ok hk hcs (pf_reads hp hx) (hro _ hmem) hg
   have e:canHoldV n g (rs[i].kind,rs[i].cells,rs[i].value)=canHoldV n g rs[i].val:=rfl
   rw [e] at a1
   cases c:canHoldV n g rs[i].val with
   | true=>
    rw [c] at a1
    obtain ⟨H',b1,b2⟩:=ih (i + 1) fuel H1 (by omega) (by omega) (hp.trans a2)
    push_cast at b1
    refine ⟨H',?_,b2⟩
    simp (disch:=omega) only [impl_cellFits.l5,impl_cellFits.j7,impl_cellFits.j8,dt,df,bt,bf,nt,nf,Za,Zy,Zx,Zt,Zf,Zn,Zz,Zi,Zo,wr,AV.toB,AV.toI,AV.toS,if_true,l0,l1,l2,hct,a1,b1,Bool.or_true,Bool.true_and]
   | false=>
    rw [c] at a1
    refine ⟨H1,?_,hp.trans a2⟩
    simp (disch:=omega) only [impl_cellFits.l5,impl_cellFits.j7,impl_cellFits.j8,dt,df,bt,bf,nt,nf,Za,Zy,Zx,Zt,Zf,Zn,Zz,Zi,Zo,wr,AV.toB,AV.toI,AV.toS,if_true,l0,l1,l2,hct,a1,Bool.or_false,Bool.false_and]
theorem cellFits_l1 (rec:Rec) (k:Nat) (L0:Sl→Int→Int→Int→Int→Int→Sl→Sl→Hp→An) {n y0 x15:Int} {gs s xs cs:Sl} {H:Hp} {g cells:List Int} {at' q:Nat} (hc:Reads .i64 H cs cells) (hx:Reads .i64 H xs g) (ha:at' < g.length) (hq:q < 1000) (hcl:cells.length ≤ 10) (hin:∀ c ∈ cells,0 ≤ c∧c.toNat < g.length∧c < (g.length:Int)) :
  ∀ (j i fuel:Nat),i + j=cells.length→j < fuel→impl_cellFits.l1 rec k L0 fuel xs at' n x15 q cs cells.length i y0 gs s H =
   bif (cells.drop i).any (fun c=>decide (c ≠ (at':Int)) && decide (g.getD c.toNat 0=g.getD at' 0)) then some (.bool false,H) else L0 xs at' n x15 ((q:Int) + 1) y0 gs s H:=by
 have hcs:=hc.len
 have hxl:=hx.len
 have eqd:∀ a b:Int,(a == b)=decide (a=b):=fun a b=>by rw [Bool.eq_iff_iff]; simp
 intro j
 induction j with
 | zero=>
  intro i fuel hi hf
  obtain ⟨fuel,rfl⟩:=Zs fuel (by omega)
  rw [List.drop_eq_nil_of_le (by omega)]
  simp (disch:=omega) only [impl_cellFits.l1,impl_cellFits.j4,df,Zf,wr,List.any_nil]
 | succ j ih=>
  intro i fuel hi hf
  obtain ⟨fuel,rfl⟩:=Zs fuel (by omega)
  have hi2:i < cells.length:=by omega
  obtain ⟨c0,c1,c2⟩:=hin _ (mem_getD hi2)
  have hd:cells.drop i=cells.getD i 0 :: cells.drop (i + 1):=by
   rw [List.drop_eq_getElem_cons hi2,List.getD_eq_getElem?_getD,List.getElem?_eq_getElem hi2]; rfl
  have h5:=ih (i + 1) fuel (by omega) (by omega)
  push_cast at h5
  rw [hd,List.any_cons]
  by_cases cA:cells.getD i 0=(at':Int)
  ·rw [df (show ¬ cells.getD i 0 ≠ (at':Int) from fun h=>h cA),Bool.false_and,Bool.false_or]
   simp (disch:=omega) only [impl_cellFits.l1,impl_cellFits.j3,impl_cellFits.j6,dt,nf,Za,Zt,Zf,Zn,Zo,wr,rdn hc,h5]
  ·rw [dt cA,Bool.true_and]
   by_cases eA:g.getD (cells.getD i 0).toNat 0=g.getD at' 0
   ·rw [dt eA]
    simp (disch:=omega) only [impl_cellFits.l1,impl_cellFits.j3,impl_cellFits.j6,dt,nt,bt,Za,Zt,Zf,Zn,Zo,wr,rdn hc,rdn hx,Bool.true_or]
   ·rw [df eA]
    simp (disch:=omega) only [impl_cellFits.l1,impl_cellFits.j3,impl_cellFits.j6,dt,nt,bf,Za,Zt,Zf,Zn,Zo,wr,rdn hc,rdn hx,Bool.false_or,h5]
theorem cellFits_l0 {k:Nat} (hk:2000041 ≤ k) {H0:Hp} {gs s xs:Sl} {given g:List Int} {rs:List R} {N:Nat} (hz:PuzAt H0 (N:Int) gs s given rs) (hro:∀ r ∈ rs,R.ok (N:Int) r=true) (hx:Reads .i64 H0 xs g) (hg:gridOk g (N:Int)=true) {at':Nat} (ha:at' < g.length) :
  ∀ (j q fuel:Nat) (H:Hp),q + j=N→j < fuel→H0 <+: H→∃ H',impl_cellFits.l0 (callF PP orc k) k fuel xs at' N N q N gs s H=some (.bool (!cellFrom N g at' q j && (rs.map R.val).all fun r=>!r.2.1.contains (at':Int) || canHoldV N g r),H')∧H0 <+: H':=by
 have hn:=hz.n4
 have hN:2 ≤ N∧N ≤ 4:=by omega
 have hgl:=((gridOk_iff g _).1 hg).2.1
 have hgl':g.length=N * N:=by
  have:N=2 ∨ N=3 ∨ N=4:=by omega
  rcases this with rfl | rfl | rfl <;> omega
 have hxl:=hx.len
 have hsl:=hz.rr.len
 have hrl:=hz.rl
 intro j
 induction j with
 | zero=>
  intro q fuel H hq hf hp
  obtain ⟨fuel,rfl⟩:=Zs fuel (by omega)
  obtain ⟨H',b1,b2⟩:=cellFits_l5 hk hz hro hx hg (at':=at') rs.length 0 k H (by omega) (by omega) hp
  simp only [Int.natCast_zero,List.drop_zero] at b1
  refine ⟨H',?_,b2⟩
  simp (disch:=omega) only [impl_cellFits.l0,impl_cellFits.j2,dt,df,bt,bf,nt,nf,Za,Zy,Zx,Zt,Zf,Zn,Zz,Zi,Zo,wr,AV.toB,AV.toI,AV.toS,if_true,hsl,b1,cellFrom,Bool.true_and]
 | succ j ih=>
  intro q fuel H hq hf hp
  obtain ⟨fuel,rfl⟩:=Zs fuel (by omega)
  obtain ⟨w1,w2,w3,w4⟩:=wdivm N hN (a:=at') (u:=q) (by omega) (by omega)
  have q1:H <+: H ++ [some (Blk.mk false (([((at' / N * N + q:Nat):Int),((q * N + at' % N:Nat):Int)]:List Int).map (.int .i64)))]:=List.prefix_append _ _
  have hnew:=own_reads (own_new 1 H (([((at' / N * N + q:Nat):Int),((q * N + at' % N:Nat):Int)]:List Int).map (.int .i64)) 2 rfl)
  have hx1:=pf_reads (hp.trans q1) hx
  obtain ⟨H',b1,b2⟩:=ih (q + 1) fuel _ (by omega) (by omega) (hp.trans q1)
  rw [show ((q + 1:Nat):Int)=(q:Int) + 1 from rfl] at b1
  rw [cellFrom]
  generalize hA:at' / N * N + q=A at *
  generalize hB:q * N + at' % N=B at *
  have h1:=cellFits_l1 (callF PP orc k) k (impl_cellFits.l0 (callF PP orc k) k fuel) (n:=(N:Int)) (y0:=(N:Int)) (x15:=(N:Int)) (gs:=gs) (s:=s) (at':=at') (q:=q) hnew hx1 ha (by omega) (by simp) (fun c hc=>by
   simp at hc
   rcases hc with rfl | rfl
   ·exact ⟨by omega,by rw [Int.toNat_natCast]; omega,by omega⟩
   ·exact ⟨by omega,by rw [Int.toNat_natCast]; omega,by omega⟩) 2 0 k (by simp) (by omega)
  have e:(([(A:Int),(B:Int)]:List Int).drop 0).any (fun c=>decide (c ≠ (at':Int)) && decide (g.getD c.toNat 0=g.getD at' 0))=((decide (A ≠ at') && decide (g.getD A 0=g.getD at' 0)) || (decide (B ≠ at') && decide (g.getD B 0=g.getD at' 0))):=by
   have eA:decide ((A:Int) ≠ (at':Int))=decide (A ≠ at'):=decide_eq_decide.2 (by omega)
   have eB:decide ((B:Int) ≠ (at':Int))=decide (B ≠ at'):=decide_eq_decide.2 (by omega)
   simp only [List.drop_zero,List.any_cons,List.any_nil,Zn,Bool.or_false,eA,eB]
  rw [e] at h1
  simp only [List.map_cons,List.map_nil,Zl,Zm,Int.natCast_zero] at h1 b1
  have z1:((N:Int)=0)=False:=by simp; omega
  cases hc:(decide (A ≠ at') && decide (g.getD A 0=g.getD at' 0)) || (decide (B ≠ at') && decide (g.getD B 0=g.getD at' 0)) with
  | true=>
   rw [hc] at h1
   refine ⟨_,?_,hp.trans q1⟩
   rw [← Bool.or_assoc,hc]
   simp only [impl_cellFits.l0,dt (show (q:Int) < (N:Int) by omega),Zt,z1,if_false,w1,w2,hA,hB,h1,List.map_cons,List.map_nil,Bool.true_or,Zy,Bool.false_and]
  | false=>
   rw [hc] at h1
   refine ⟨H',?_,b2⟩
   rw [← Bool.or_assoc,hc]
   simp only [impl_cellFits.l0,dt (show (q:Int) < (N:Int) by omega),Zt,Zf,z1,if_false,w1,w2,hA,hB,h1,Bool.false_or,b1]
theorem cellFits_ok {k:Nat} (hk:2000042 ≤ k) {H:Hp} {n:Int} {gs s xs:Sl} {given g:List Int} {rs:List R} (hz:PuzAt H n gs s given rs) (hro:∀ r ∈ rs,R.ok n r=true) (hx:Reads .i64 H xs g) (hg:gridOk g n=true) {at':Nat} (ha:at' < g.length) :
  ∃ H',callF PP orc k impl_cellFits.id [.agg [.int .i64 n,.sl 1 gs,.sl 3 s],.sl 1 xs,.int .i64 (at':Int)] H=some (.bool (cellFitsV n (rs.map R.val) g at'),H')∧H <+: H':=by
 obtain ⟨k,rfl⟩:=Zs k (by omega)
 rw [impl_cellFits.call]
 have hn:=hz.n4
 obtain ⟨N,rfl⟩:=Int.eq_ofNat_of_zero_le (show 0 ≤ n by omega)
 obtain ⟨H',a1,a2⟩:=cellFits_l0 (show 2000041 ≤ k by omega) hz hro hx hg ha N 0 k H (by omega) (by omega) (List.prefix_refl _)
 exact ⟨H',a1,a2⟩
def runL {σ:Type} (step:σ→List Int→σ × Bool):σ→List (List Int)→σ × Bool
 | st,[]=>(st,true)
 | st,x :: L=>if (step st x).2=true then runL step (step st x).1 L else ((step st x).1,false)
theorem runL_app {σ:Type} (step:σ→List Int→σ × Bool):∀ (A L:List (List Int)) (st:σ),runL step st (A ++ L)=if (runL step st A).2=true then runL step (runL step st A).1 L else runL step st A
 | [],L,st=>by simp [runL]
 | x :: A,L,st=>by
  rw [List.cons_append,runL,runL]
  by_cases h:(step st x).2=true
  ·rw [if_pos h,if_pos h,runL_app step A L]
  ·rw [if_neg h,if_neg h]; simp
theorem runL_one {σ:Type} (step:σ→List Int→σ × Bool) (st:σ) (x:List Int):runL step st [x]=step st x:=by
 rw [runL]
 by_cases h:(step st x).2=true
 ·rw [if_pos h,runL,← h]
 ·rw [if_neg h]
  rw [Bool.not_eq_true] at h
  rw [← h]
structure Tell (B:Hp) (f:FuncId) (caps:List AV) (b d:Nat) {σ:Type} (step:σ→List Int→σ × Bool) (T:Nat→σ × Bool→Hp→Prop) (K:Nat):Prop where
 ok:okF PP f=true
 gl:caps.all AV.glob=true
 bB:B.length ≤ b
 bd:b ≠ d
 pf:∀ c st H H',T c st H→H <+: H'→T c st H'
 wr:∀ c st H H',T c st H→But d H H'→H'.length=H.length→T c st H'
 go:∀ k,K ≤ k→∀ c st H t g,T c (st,true) H→B <+: H→Reads .i64 H t g→g.length ≤ 16→t.blk=d→t.nil=false→c ≠ d→B.length ≤ c→∃ H' c',callF PP orc k f ([.sl 1 t] ++ caps) H=some (.bool (step st g).2,H')∧T c' (step st g) H'∧Adv2 b c H H'∧(c'=c ∨ H.length ≤ c')
structure Adv3 (d b c:Nat) (H H':Hp):Prop where
 but:∀ (e:Nat) (x:Option Blk),e ≠ d→e ≠ b→e ≠ c→H[e]?=some x→H'[e]?=some x
 le:H.length ≤ H'.length
theorem Adv3.refl (d b c:Nat) (H:Hp):Adv3 d b c H H:=⟨fun _ _ _ _ _ h=>h,Nat.le_refl _⟩
theorem Adv3.trans {d b c c':Nat} {H H1 H2:Hp} (h:Adv3 d b c H H1) (h':Adv3 d b c' H1 H2) (hc:c'=c ∨ H.length ≤ c'):Adv3 d b c H H2:=
 ⟨fun e x h1 h2 h3 hx=>by
  have hd:=(List.getElem?_eq_some_iff.1 hx).1
  exact h'.but e x h1 h2 (by omega) (h.but e x h1 h2 h3 hx),Nat.le_trans h.le h'.le⟩
theorem pf_adv3 {d b c:Nat} {H H':Hp} (g:H <+: H'):Adv3 d b c H H':=⟨fun e x _ _ _ hx=>pf_get g hx,g.length_le⟩
theorem adv_adv3 {d b c:Nat} {H H':Hp} (g:Adv d H H'):Adv3 d b c H H':=⟨fun e x h1 _ _ hx=>g.but e x h1 hx,g.le⟩
theorem adv2_adv3 {d b c:Nat} {H H':Hp} (g:Adv2 b c H H'):Adv3 d b c H H':=⟨fun e x _ h2 h3 hx=>g.but e x h2 h3 hx,g.le⟩
theorem Adv3.pf {d b c:Nat} {H H' B:Hp} (h:Adv3 d b c H H') (hd:B.length ≤ d) (hb:B.length ≤ b) (hc:B.length ≤ c) (g:B <+: H):B <+: H':=by
 have hl0:=g.length_le
 have hle:=h.le
 rw [List.prefix_iff_eq_take]
 apply List.ext_getElem?
 intro i
 by_cases hi:i < B.length
 ·rw [List.getElem?_take,if_pos hi]
  have e:=List.getElem?_eq_getElem hi
  rw [e,h.but i _ (by omega) (by omega) (by omega) (pf_get g e)]
 ·rw [List.getElem?_eq_none (by omega),List.getElem?_eq_none (by simp; omega)]
structure Bx (H:Hp) (gb tb yb nb pb:Nat) (n:Int) (gs ps ss:Sl) (f:FuncId) (caps:List AV):Prop where
 bg:H[gb]?=some (some ⟨false,[.sl 1 gs]⟩)
 bt:H[tb]?=some (some ⟨false,[.fn f caps]⟩)
 bo:H[yb]?=some (some ⟨false,[.fn impl_solutions_1.id [.ptr gb 0,.ptr tb 0,.ptr yb 0,.ptr nb 0,.ptr pb 0]]⟩)
 bn:H[nb]?=some (some ⟨false,[.int .i64 n]⟩)
 bp:H[pb]?=some (some ⟨false,[.int .i64 n,.sl 1 ps,.sl 3 ss]⟩)
def Five (x gb tb yb nb pb:Nat):Prop:=gb ≠ x∧tb ≠ x∧yb ≠ x∧nb ≠ x∧pb ≠ x
theorem Bx.adv {H H':Hp} {gb tb yb nb pb:Nat} {n:Int} {gs ps ss:Sl} {f:FuncId} {caps:List AV} (h:Bx H gb tb yb nb pb n gs ps ss f caps) {d b c:Nat} (a:Adv3 d b c H H') (hd:Five d gb tb yb nb pb) (hb:Five b gb tb yb nb pb) (hc:Five c gb tb yb nb pb):Bx H' gb tb yb nb pb n gs ps ss f caps:=by
 obtain ⟨d1,d2,d3,d4,d5⟩:=hd
 obtain ⟨b1,b2,b3,b4,b5⟩:=hb
 obtain ⟨c1,c2,c3,c4,c5⟩:=hc
 exact ⟨a.but _ _ d1 b1 c1 h.bg,a.but _ _ d2 b2 c2 h.bt,a.but _ _ d3 b3 c3 h.bo,a.but _ _ d4 b4 c4 h.bn,a.but _ _ d5 b5 c5 h.bp⟩
theorem Bx.five {H:Hp} {gb tb yb nb pb:Nat} {n:Int} {gs ps ss:Sl} {f:FuncId} {caps:List AV} (h:Bx H gb tb yb nb pb n gs ps ss f caps) {c:Nat} (hc:H.length ≤ c):Five c gb tb yb nb pb:=by
 have h1:=(List.getElem?_eq_some_iff.1 h.bg).1
 have h2:=(List.getElem?_eq_some_iff.1 h.bt).1
 have h3:=(List.getElem?_eq_some_iff.1 h.bo).1
 have h4:=(List.getElem?_eq_some_iff.1 h.bn).1
 have h5:=(List.getElem?_eq_some_iff.1 h.bp).1
 exact ⟨by omega,by omega,by omega,by omega,by omega⟩
theorem okSol:okF PP impl_solutions_1.id=true:=by kernel_rfl
theorem box_fn {H:Hp} {b:Nat} {f:FuncId} {cs:List AV} (h:H[b]?=some (some ⟨false,[.fn f cs]⟩)):ldF H b 0=some (f,cs):=by unfold ldF Hp.cell; rw [h]; simp [AV.toF]
theorem set_set (l:List Int) (i:Nat) (a b:Int):(l.set i a).set i b=l.set i b:=by
 apply List.ext_getElem?
 intro j
 by_cases e:i=j
 ·subst e
  by_cases h:i < l.length
  ·rw [List.getElem?_set_self (by simpa using h),List.getElem?_set_self h]
  ·rw [List.getElem?_eq_none (by simp; omega),List.getElem?_eq_none (by simp; omega)]
 ·rw [List.getElem?_set_ne e,List.getElem?_set_ne e,List.getElem?_set_ne e]
theorem set_same (l:List Int) (i:Nat) (h:l.getD i 0=0):l.set i 0=l:=by
 apply List.ext_getElem?
 intro j
 by_cases e:i=j
 ·subst e
  by_cases hi:i < l.length
  ·rw [List.getElem?_set_self hi,List.getElem?_eq_getElem hi]
   rw [List.getD_eq_getElem?_getD,List.getElem?_eq_getElem hi] at h
   simp at h; rw [h]
  ·rw [List.getElem?_eq_none (by simp; omega),List.getElem?_eq_none (by omega)]
 ·rw [List.getElem?_set_ne e]
def SolTo {σ:Type} (B:Hp) (b:Nat) (gs:Sl) (T:Nat→σ × Bool→Hp→Prop) (c:Nat) (H:Hp) (g:List Int) (R:σ × Bool) (r:An):Prop:=
 ∃ H' c' g',r=some (.bool R.2,H')∧B <+: H'∧Adv3 gs.blk b c H H'∧Own 1 B H' gs (g'.map (.int .i64))∧g'.length=g.length∧(R.2=true→g'=g)∧T c' R H'∧(c'=c ∨ H.length ≤ c')
theorem fr_step {b c0 c d:Nat} {H0 H H1:Hp} (hf:Adv2 b c0 H0 H) (ha:Adv3 d b c H H1) (hd:H0.length ≤ d) (hc:c=c0 ∨ H0.length ≤ c):Adv2 b c0 H0 H1:=
 ⟨fun e x h1 h2 hx=>by
  have he:=(List.getElem?_eq_some_iff.1 hx).1
  exact ha.but e x (by omega) h1 (by omega) (hf.but e x h1 h2 hx),Nat.le_trans hf.le ha.le⟩
theorem Sol_ok {B:Hp} {f:FuncId} {caps:List AV} {b:Nat} {gs ps ss:Sl} {σ:Type} {step:σ→List Int→σ × Bool} {T:Nat→σ × Bool→Hp→Prop} {K:Nat} (tell:Tell B f caps b gs.blk step T K) {gb tb yb nb pb:Nat} {n:Int} {given:List Int} {rs:List R} {H0:Hp} {c0:Nat} (hn:2 ≤ n∧n ≤ 4) (hzk:∀ H,Adv2 b c0 H0 H→PuzAt H n ps ss given rs) (hd0:H0.length ≤ gs.blk) (hro:∀ r ∈ rs,R.ok n r=true) (hgg:gridOk given n=true) (hd5:Five gs.blk gb tb yb nb pb) (hb5:Five b gb tb yb nb pb) :
  ∀ (rem k:Nat),K + 2000200 + rem ≤ k→∀ (H:Hp) (g:List Int) (c:Nat) (st:σ),rem ≤ g.length→B <+: H→Bx H gb tb yb nb pb n gs ps ss f caps→Five c gb tb yb nb pb→c ≠ gs.blk→B.length ≤ c→Own 1 B H gs (g.map (.int .i64))→gridOk g n=true→Le given g→fitsV n given (rs.map R.val) g=true→T c (st,true) H→Adv2 b c0 H0 H→(c=c0 ∨ H0.length ≤ c) →
   SolTo B b gs T c H g (runL step st (sols (fitsV n given (rs.map R.val)) n.toNat rem g)) (callF PP orc k impl_solutions_1.id [.int .i64 ((g.length - rem:Nat):Int),.ptr gb 0,.ptr tb 0,.ptr yb 0,.ptr nb 0,.ptr pb 0] H):=by
 have hrv:∀ r ∈ rs.map R.val,ruleOkV n r=true:=by
  intro r hr
  obtain ⟨q,hq,e⟩:=List.mem_map.1 hr
  rw [← e]; exact hro q hq
 have hgiv:∀ x,0 ≤ given.getD x 0:=fun x=>by
  have hgb:=((gridOk_iff given n).1 hgg).2.2
  by_cases h:x < given.length
  ·exact (hgb _ (mem_getD h)).1
  ·rw [List.getD_eq_getElem?_getD,List.getElem?_eq_none (by omega)]; simp
 intro rem
 induction rem with
 | zero=>
  intro k hk H g c st hrem hB hbx hc5 hcd hcB ho hg hle hf hT hfr hc0
  obtain ⟨k,rfl⟩:=Zs k (by omega)
  rw [impl_solutions_1.call]
  have rg:=own_reads ho
  have hgl:=rg.len
  have h16:=gridOk_len hg
  obtain ⟨H',c',a1,a2,a3,a4⟩:=tell.go k (by omega) c st H gs g hT hB rg h16 rfl ho.nn hcd hcB
  rw [sols,runL_one]
  have adv:Adv3 gs.blk b c H H':=adv2_adv3 a3
  refine ⟨H',c',g,?_,adv.pf ho.blk tell.bB hcB hB,adv,a3.own (Ne.symm tell.bd) (Ne.symm hcd) ho,rfl,fun _=>rfl,a2,a4⟩
  have hcg:([.sl 1 gs] ++ caps:List AV).all AV.glob=true:=by rw [List.all_append,tell.gl]; rfl
  simp (disch:=omega) only [impl_solutions_1.f,dt,df,bt,bf,nt,nf,Za,Zy,Zx,Zt,Zf,Zn,Zz,Zi,Zo,wr,AV.toB,AV.toI,AV.toS,if_true,box_sl hbx.bg,box_fn hbx.bt,tell.ok,hcg,a1]
 | succ rem ih=>
  intro k hk H g c st hrem hB hbx hc5 hcd hcB ho hg hle hf hT hfr hc0
  obtain ⟨k,rfl⟩:=Zs k (by omega)
  rw [impl_solutions_1.call]
  have rg:=own_reads ho
  have hgl:=rg.len
  have h16:=gridOk_len hg
  have hat:g.length - (rem + 1) < g.length:=by omega
  rw [sols]
  generalize hA:g.length - (rem + 1)=at' at hat ⊢
  have hnext:IntKind.i64.wrap ((at':Int) + 1)=((g.length - rem:Nat):Int):=by rw [wr (by omega) (by omega)]; omega
  have hfy:=box_fn hbx.bo
  have hcg:∀ z:Int,([.int .i64 z,.ptr gb 0,.ptr tb 0,.ptr yb 0,.ptr nb 0,.ptr pb 0]:List AV).all AV.glob=true:=fun z=>rfl
  by_cases c0:0 < g.getD at' 0
  ·rw [ip c0]
   have h1:=ih k (by omega) H g c st (by omega) hB hbx hc5 hcd hcB ho hg hle hf hT hfr hc0
   rw [← hnext] at h1
   obtain ⟨H',c',g',e1,e2⟩:=h1
   refine ⟨H',c',g',?_,e2⟩
   simp only [impl_solutions_1.f,box_sl hbx.bg,Zo,bf (show (at':Int) ≠ (gs.len:Int) by omega),Zf,Zt,dt (show (0:Int) ≤ (at':Int) by omega),dt (show (at':Int) < (gs.len:Int) by omega),Za,Zn,rdn rg hat,dt (show g.getD at' 0 > 0 from c0),hfy,okSol,hcg,List.cons_append,List.nil_append,e1,AV.toB]
  ·rw [iN c0]
   have hv0:=((gridOk_iff g n).1 hg).2.2 _ (mem_getD hat)
   have h0:g.getD at' 0=0:=by omega
   have loop:∀ (j fuel:Nat) (v x:Int) (Hc:Hp) (cc:Nat) (sc:σ),v + j=n + 1→1 ≤ v→j < fuel→B <+: Hc→Bx Hc gb tb yb nb pb n gs ps ss f caps→Five cc gb tb yb nb pb→cc ≠ gs.blk→B.length ≤ cc→Own 1 B Hc gs ((g.set at' x).map (.int .i64))→T cc (sc,true) Hc→Adv3 gs.blk b c H Hc→(cc=c ∨ H.length ≤ cc) →
     SolTo B b gs T c H g (runL step sc ((upto j v).flatMap fun v=>if fitsV n given (rs.map R.val) (g.set at' v)=true then sols (fitsV n given (rs.map R.val)) n.toNat rem (g.set at' v) else [])) (impl_solutions_1.l0 (callF PP orc k) k fuel at' gb 0 yb 0 nb 0 pb 0 v Hc):=by
    intro j
    induction j with
    | zero=>
     intro fuel v x Hc cc sc hv hv1 hfu hBc hbc hcc5 hccd hccB hoc hTc hadv hcc
     obtain ⟨fuel,rfl⟩:=Zs fuel (by omega)
     obtain ⟨H1,a1,a2,a3,a4⟩:=own_set1 hoc hBc at' (by simpa using hat) 0
     have hgl1:=(own_reads hoc).len
     simp only [List.length_set] at hgl1
     rw [set_set,set_same g at' h0] at a3
     have hld:ldI .i64 Hc nb 0=some n:=by unfold ldI Hp.cell; rw [hbc.bn]; simp [AV.toI]
     have hl1:H1.length=Hc.length:=by
      have:=own_sto hoc hBc at' [.int .i64 0] (by simp; omega)
      obtain ⟨H2,q1,q2,q3,q4,q5⟩:=this
      rw [Nat.mul_one] at a1
      rw [a1] at q1
      simp only [Option.some.injEq] at q1
      rw [q1]; exact q5
     refine ⟨H1,cc,g,?_,a2,hadv.trans (adv_adv3 a4) (.inl rfl),a3,rfl,fun _=>rfl,tell.wr _ _ _ _ hTc a4.but hl1,hcc⟩
     simp only [upto,List.flatMap_nil,runL]
     simp (disch:=omega) only [impl_solutions_1.l0,impl_solutions_1.j2,dt,df,bt,bf,nt,nf,Za,Zy,Zx,Zt,Zf,Zn,Zz,Zi,Zo,wr,AV.toB,AV.toI,AV.toS,if_true,hld,box_sl hbc.bg,a1]
    | succ j ihj=>
     intro fuel v x Hc cc sc hv hv1 hfu hBc hbc hcc5 hccd hccB hoc hTc hadv hcc
     obtain ⟨fuel,rfl⟩:=Zs fuel (by omega)
     have hld:ldI .i64 Hc nb 0=some n:=by unfold ldI Hp.cell; rw [hbc.bn]; simp [AV.toI]
     have hgl1:=(own_reads hoc).len
     simp only [List.length_set] at hgl1
     obtain ⟨H1,a1,a2,a3,a4⟩:=own_set1 hoc hBc at' (by simpa using hat) v
     rw [set_set] at a3
     have hl1:H1.length=Hc.length:=by
      have:=own_sto hoc hBc at' [.int .i64 v] (by simp; omega)
      obtain ⟨H2,q1,q2,q3,q4,q5⟩:=this
      rw [Nat.mul_one] at a1
      rw [a1] at q1
      simp only [Option.some.injEq] at q1
      rw [q1]; exact q5
     have hT1:=tell.wr _ _ _ _ hTc a4.but hl1
     have hb1:=hbc.adv (adv_adv3 (b:=b) (c:=cc) a4) hd5 hb5 hcc5
     have hg1:=grid_set hg at' v ⟨by omega,by omega⟩
     have r1:ldI .i64 H1 pb 0=some n:=by unfold ldI Hp.cell; rw [hb1.bp]; simp [AV.toI]
     have r2:ldS 1 H1 pb (0 + 1)=some ps:=by unfold ldS Hp.cell; rw [hb1.bp]; simp [AV.toS]
     have r3:ldS 3 H1 pb (0 + 1 + 1)=some ss:=by unfold ldS Hp.cell; rw [hb1.bp]; simp [AV.toS]
     obtain ⟨H2,d1,d2⟩:=cellFits_ok (show 2000042 ≤ k by omega) (hzk H1 (fr_step hfr (hadv.trans (adv_adv3 (b:=b) (c:=cc) a4) hcc) hd0 hc0)) hro (own_reads a3) hg1 (at':=at') (by simpa using hat)
     rw [← fits_step hf hg hle hgiv hat h0 ⟨hv1,by omega⟩ hrv] at d1
     have hT2:=tell.pf _ _ _ _ hT1 d2
     have hb2:=hb1.adv (pf_adv3 (d:=gs.blk) (b:=b) (c:=cc) d2) hd5 hb5 hcc5
     have hB2:=a2.trans d2
     have adv2:Adv3 gs.blk b c H H2:=(hadv.trans (adv_adv3 (b:=b) (c:=cc) a4) hcc).trans (pf_adv3 (b:=b) (c:=cc) d2) hcc
     rw [upto,List.flatMap_cons,runL_app]
     cases cf:fitsV n given (rs.map R.val) (g.set at' v) with
     | true=>
      rw [cf] at d1
      rw [ip rfl]
      obtain ⟨H3,c3,g3,e1,e2,e3,e4,e5,e6,e7,e8⟩:=ih k (by omega) H2 (g.set at' v) cc sc (by simp; omega) hB2 hb2 hcc5 hccd hccB (own_pf a3 d2) hg1 (hle.trans (by
       refine ⟨by simp,fun i=>?_⟩
       rw [getD_set]
       by_cases e:at'=i
       ·subst e; exact .inl h0
       ·rw [if_neg (by omega)]; exact .inr rfl)) cf hT2 (fr_step hfr adv2 hd0 hc0) (by have:=hfr.le; omega)
      rw [List.length_set,← hnext] at e1
      have hc3:c3=c ∨ H.length ≤ c3:=by
       have:=adv2.le
       rcases e8 with h | h
       ·rw [h]; exact hcc
       ·right; omega
      have adv3:=adv2.trans e3 hcc
      have hfy2:=box_fn hb2.bo
      cases hr:(runL step sc (sols (fitsV n given (rs.map R.val)) n.toNat rem (g.set at' v))).2 with
      | true=>
       rw [hr] at e1
       rw [ip rfl]
       have hg3:=e6 hr
       subst hg3
       have hc35:Five c3 gb tb yb nb pb:=by
        rcases e8 with h | h
        ·rw [h]; exact hcc5
        ·exact hb2.five h
       have hd3:=own_lt' (own_pf a3 d2)
       have hc3d:c3 ≠ gs.blk:=by rcases e8 with h | h; rw [h]; exact hccd; omega
       have hc3B:B.length ≤ c3:=by have:=hB2.length_le; rcases e8 with h | h; rw [h]; exact hccB; omega
       obtain ⟨H4,c4,g4,f1,f2⟩:=ihj fuel (v + 1) v H3 c3 _ (by omega) (by omega) (by omega) e2 (hb2.adv e3 hd5 hb5 hcc5) hc35 hc3d hc3B e4 (by have e7':=e7; rw [← hr]; exact e7') adv3 hc3
       refine ⟨H4,c4,g4,?_,f2⟩
       simp (disch:=omega) only [impl_solutions_1.l0,impl_solutions_1.j1,impl_solutions_1.j3,dt,Za,Zy,Zt,Zf,Zn,Zo,hld,box_sl hbc.bg,a1,r1,r2,r3,box_sl hb1.bg,d1,AV.toB,hfy2,okSol,hcg,List.cons_append,List.nil_append,e1,wr (n:=v + 1),f1]
      | false=>
       rw [hr] at e1
       rw [iN (by simp)]
       refine ⟨H3,c3,g3,?_,e2,adv3,e4,by simpa using e5,(fun h=>by rw [hr] at h; cases h),e7,hc3⟩
       rw [hr]
       simp (disch:=omega) only [impl_solutions_1.l0,impl_solutions_1.j1,impl_solutions_1.j3,dt,Za,Zx,Zt,Zf,Zn,Zo,hld,box_sl hbc.bg,a1,r1,r2,r3,box_sl hb1.bg,d1,AV.toB,hfy2,okSol,hcg,List.cons_append,List.nil_append,e1]
     | false=>
      rw [cf] at d1
      simp only [Bool.false_eq_true,if_false,runL,if_true]
      obtain ⟨H4,c4,g4,f1,f2⟩:=ihj fuel (v + 1) v H2 cc sc (by omega) (by omega) (by omega) hB2 hb2 hcc5 hccd hccB (own_pf a3 d2) hT2 adv2 hcc
      refine ⟨H4,c4,g4,?_,f2⟩
      simp (disch:=omega) only [impl_solutions_1.l0,impl_solutions_1.j1,impl_solutions_1.j3,dt,Za,Zt,Zf,Zn,Zo,hld,box_sl hbc.bg,a1,r1,r2,r3,box_sl hb1.bg,d1,AV.toB,wr (n:=v + 1),f1]
   have hset:g.set at' 0=g:=set_same g at' h0
   obtain ⟨H4,c4,g4,f1,f2⟩:=loop n.toNat k 1 0 H c st (by omega) (by omega) (by omega) hB hbx hc5 hcd hcB (by rw [hset]; exact ho) hT (Adv3.refl _ _ _ _) (.inl rfl)
   refine ⟨H4,c4,g4,?_,f2⟩
   simp only [impl_solutions_1.f,box_sl hbx.bg,Zo,bf (show (at':Int) ≠ (gs.len:Int) by omega),Zf,Zt,dt (show (0:Int) ≤ (at':Int) by omega),dt (show (at':Int) < (gs.len:Int) by omega),Za,Zn,rdn rg hat,df (show ¬ g.getD at' 0 > 0 from c0),f1]

structure OutD (B:Hp) (b d:Nat) (H:Hp) (s:Sl) (ls:List (List Int)):Prop where
 cell:H[b]?=some (some ⟨false,[.sl 1 s]⟩)
 bB:B.length ≤ b
 bs:s.blk ≠ b
 bd:b ≠ d
 sd:s.blk ≠ d
 ex:∃ ss:List Sl,Own 1 B H s (ss.map (.sl 1))∧ss.length=ls.length∧∀ i,(h:i < ss.length)→(h':i < ls.length)→Own 1 B H ss[i] (ls[i].map (.int .i64))∧ss[i].blk ≠ b∧ss[i].blk ≠ s.blk∧ss[i].blk < H.length∧B.length ≤ ss[i].blk∧ss[i].blk ≠ d
theorem OutD.reads {B H:Hp} {b d:Nat} {s:Sl} {ls:List (List Int)} (h:OutD B b d H s ls):ReadsL B H s ls:=by
 obtain ⟨ss,h1,h2,h3⟩:=h.ex
 have:Outs B b H s ls:=⟨h.cell,h.bB,h.bs,ss,h1,h2,fun i hi hi'=>by
  obtain ⟨a,b,c,d,e,f⟩:=h3 i hi hi'
  exact ⟨a,b,c,d,e⟩⟩
 exact this.reads
theorem OutD.len {B H:Hp} {b d:Nat} {s:Sl} {ls:List (List Int)} (h:OutD B b d H s ls):s.len=ls.length:=h.reads.len
theorem OutD.pf {B H H':Hp} {b d:Nat} {s:Sl} {ls:List (List Int)} (h:OutD B b d H s ls) (g:H <+: H'):OutD B b d H' s ls:=by
 obtain ⟨ss,h1,h2,h3⟩:=h.ex
 exact ⟨pf_get g h.cell,h.bB,h.bs,h.bd,h.sd,ss,own_pf h1 g,h2,fun i hi hi'=>by
  obtain ⟨a,b,c,d,e,f⟩:=h3 i hi hi'
  exact ⟨own_pf a g,b,c,Nat.lt_of_lt_of_le d g.length_le,e,f⟩⟩
theorem OutD.wr {B H H':Hp} {b d:Nat} {s:Sl} {ls:List (List Int)} (h:OutD B b d H s ls) (g:But d H H') (hl:H'.length=H.length):OutD B b d H' s ls:=by
 obtain ⟨ss,h1,h2,h3⟩:=h.ex
 exact ⟨g _ _ h.bd h.cell,h.bB,h.bs,h.bd,h.sd,ss,g.own h.sd h1,h2,fun i hi hi'=>by
  obtain ⟨a,b,c,d,e,f⟩:=h3 i hi hi'
  exact ⟨g.own f a,b,c,by omega,e,f⟩⟩
theorem outD_app {B H:Hp} {b d:Nat} {s:Sl} {ls:List (List Int)} (h:OutD B b d H s ls) (hB:B <+: H) (hl:ls.length ≤ 100000) {t:Sl} {g:List Int} (ht:Own 1 B H t (g.map (.int .i64))) (t1:t.blk ≠ b) (t2:t.blk ≠ s.blk) (t3:t.blk < H.length) (t4:B.length ≤ t.blk) (t5:t.blk ≠ d) (hd:d < H.length) :
  ∃ H1 H2,H.app 1 s 1 [.sl 1 t]=some (Sl.mk false H.length 0 (ls.length + 1),H1)∧H1.sto b 0 [.sl 1 (Sl.mk false H.length 0 (ls.length + 1))]=some H2∧OutD B b d H2 (Sl.mk false H.length 0 (ls.length + 1)) (ls ++ [g])∧Adv2 b s.blk H H2∧B <+: H2:=by
 obtain ⟨ss,h1,h2,h3⟩:=h.ex
 have hsl:=h.len
 obtain ⟨H1,a1,a2,a3,a4,a5⟩:=own_app h1 hB 1 [.sl 1 t] (by omega) (by omega) (by omega) (by omega) rfl
 rw [hsl] at a1 a3
 have hb1:=a4 b _ (Ne.symm h.bs) h.cell
 obtain ⟨H2,c1,c2,c3,c4⟩:=sto1' hb1 (.sl 1 (Sl.mk false H.length 0 (ls.length + 1)))
 have hbl:=(List.getElem?_eq_some_iff.1 h.cell).1
 have adv:Adv2 b s.blk H H2:=⟨fun d x d1 d2 hx=>c3 d x d1 (a4 d x d2 hx),by omega⟩
 refine ⟨H1,H2,a1,c1,⟨c2,h.bB,by simp only; omega,h.bd,by simp only; omega,ss ++ [t],?_,by simp [h2],fun i hi hi'=>?_⟩,adv,adv.pf h.bB h1.blk hB⟩
 ·have:=c3.own (by simp only; omega) a3
  simpa using this
 ·by_cases e:i < ss.length
  ·obtain ⟨q1,q2,q3,q4,q5,q6⟩:=h3 i e (by omega)
   rw [List.getElem_append_left e,List.getElem_append_left (by omega)]
   exact ⟨adv.own q2 q3 q1,q2,by simp only; omega,by omega,q5,q6⟩
  ·have ei:i=ss.length:=by simp at hi; omega
   subst ei
   have e1:(ss ++ [t])[ss.length]=t:=by simp
   have e2:(ls ++ [g])[ss.length]=g:=by simp [h2]
   rw [e1,e2]
   exact ⟨adv.own t1 t2 ht,t1,by simp only; omega,by omega,t4,t5⟩
structure TF (B:Hp) (b mb:Nat) (most:Int) (d c:Nat) (st:List (List Int) × Bool) (H:Hp):Prop where
 ex:∃ s:Sl,s.blk=c∧OutD B b d H s st.1
 m:H[mb]?=some (some ⟨false,[.int .i64 most]⟩)
 m1:mb ≠ b
 m2:mb ≠ c
 m3:mb ≠ d
 hd:d < H.length
 lt:st.2=true→(st.1.length:Int) < most
def stepF (most:Int) (ls:List (List Int)) (x:List Int):List (List Int) × Bool:=(ls ++ [x],decide (((ls.length + 1:Nat):Int) < most))
theorem tell_first {B:Hp} {b d mb:Nat} {most:Int} (hbd:b ≠ d) (hbB:B.length ≤ b) (hm:most ≤ 1000):Tell B impl_firstSolutions_1.id [.ptr b 0,.ptr mb 0] b d (stepF most) (TF B b mb most d) 10:=by
 refine ⟨by kernel_rfl,rfl,hbB,hbd,?_,?_,?_⟩
 ·rintro c st H H' ⟨⟨s,hc,ho⟩,m,m1,m2,m3,hd,hlt⟩ g
  exact ⟨⟨s,hc,ho.pf g⟩,pf_get g m,m1,m2,m3,Nat.lt_of_lt_of_le hd g.length_le,hlt⟩
 ·rintro c st H H' ⟨⟨s,hc,ho⟩,m,m1,m2,m3,hd,hlt⟩ g hl
  exact ⟨⟨s,hc,ho.wr g hl⟩,g _ _ m3 m,m1,m2,m3,by omega,hlt⟩
 ·rintro k hk c st H t g ⟨⟨s,hc,ho⟩,m,m1,m2,m3,hd,hlt⟩ hB hr h16 htd htn hcd hcB
  subst hc
  have hlt':=hlt rfl
  simp only at hlt' ho
  obtain ⟨k,rfl⟩:=Zs k (by omega)
  have hcell:ldS 1 H b 0=some s:=by unfold ldS Hp.cell; rw [ho.cell]; simp [AV.toS]
  have hbl:=(List.getElem?_eq_some_iff.1 ho.cell).1
  have hml:=(List.getElem?_eq_some_iff.1 m).1
  have g1:H <+: H ++ [some (Blk.mk false (g.map (.int .i64)))]:=List.prefix_append _ _
  have hnew:=own_new 1 H (g.map (.int .i64)) g.length (by simp)
  have hst:stableB H (H ++ [some (Blk.mk false (g.map (.int .i64)))]) b 0 1=true:=by
   have e1:H.cell b 0=some (.sl 1 s):=by unfold Hp.cell; rw [ho.cell]; rfl
   have e2:=pf_cell g1 e1
   unfold stableB
   simp [e1,e2,AV.same]
  have hob:s.blk < H.length:=by obtain ⟨ss,h1,_⟩:=ho.ex; exact own_lt' h1
  have hcl:=Clone_own (show 1 ≤ k by omega) hr htn (by omega)
  obtain ⟨H1,H2,a1,a2,a3,a4,a5⟩:=outD_app (ho.pf g1) (hB.trans g1) (by omega) (own_base hnew hB) (by first | omega | (simp only; omega) | (simp; omega)) (by first | omega | (simp only; omega) | (simp; omega)) (by simp) hB.length_le (by first | omega | (simp only; omega) | (simp; omega)) (by simp; omega)
  have adv:Adv2 b s.blk H H2:=(pf_adv2 g1).trans a4 (.inl rfl)
  have hm2:=adv.but _ _ m1 m2 m
  have hl2:ldS 1 H2 b 0=some (Sl.mk false (H ++ [some (Blk.mk false (g.map (.int .i64)))]).length 0 (st.length + 1)):=by unfold ldS Hp.cell; rw [a3.cell]; simp [AV.toS]
  have hm3:ldI .i64 H2 mb 0=some most:=by unfold ldI Hp.cell; rw [hm2]; simp [AV.toI]
  refine ⟨H2,(H ++ [some (Blk.mk false (g.map (.int .i64)))]).length,?_,⟨⟨_,rfl,a3⟩,hm2,m1,(by first | omega | (simp only; omega) | (simp; omega)),m3,by have:=adv.le; omega,?_⟩,adv,.inr (by simp)⟩
  ·show callF PP orc (k + 1) impl_firstSolutions_1.id [.sl 1 t,.ptr b 0,.ptr mb 0] H=some (.bool (decide (((st.length + 1:Nat):Int) < most)),H2)
   rw [impl_firstSolutions_1.call]
   simp (disch:=omega) only [impl_firstSolutions_1.f,dt,df,bt,bf,nt,nf,Za,Zy,Zx,Zt,Zf,Zn,Zz,Zi,Zo,wr,AV.toB,AV.toI,AV.toS,if_true,hcell,hcl,hst,a1,a2,hl2,hm3]
  ·intro h
   have h':decide (((st.length + 1:Nat):Int) < most)=true:=h
   have h2:=of_decide_eq_true h'
   show (((st ++ [g]).length:Nat):Int) < most
   rw [List.length_append]; exact h2
theorem runL_first (most:Nat):∀ (L ls:List (List Int)),ls.length < most→(runL (stepF most) ls L).1=ls ++ L.take (most - ls.length)
 | [],ls,h=>by simp [runL]
 | x :: L,ls,h=>by
  rw [runL]
  have e:most - ls.length=(most - (ls.length + 1)) + 1:=by omega
  by_cases c:((ls.length + 1:Nat):Int) < (most:Int)
  ·rw [if_pos (show (stepF most ls x).2=true from decide_eq_true c)]
   show (runL (stepF most) (ls ++ [x]) L).1=_
   rw [runL_first most L (ls ++ [x]) (by simp; omega),e]
   simp
  ·rw [if_neg (by show ¬ decide (((ls.length + 1:Nat):Int) < (most:Int))=true; simp; omega)]
   show ls ++ [x]=_
   have:most - ls.length=1:=by omega
   rw [this]; simp
theorem sto_end {H:Hp} {x:AV} (v:AV):∃ H',(H ++ [some (Blk.mk false [x])]).sto H.length 0 [v]=some H'∧H <+: H'∧H'[H.length]?=some (some ⟨false,[v]⟩)∧H'.length=H.length + 1:=by
 obtain ⟨H',a,b,c,d⟩:=sto1' (H:=H ++ [some (Blk.mk false [x])]) (b:=H.length) (x:=x) (by simp) v
 exact ⟨H',a,c.pf (H0:=H) (Nat.le_refl _) (List.prefix_append _ _) (by omega),b,by rw [d]; simp⟩
theorem solutions_gen {B H:Hp} (hB:B <+: H) {n:Int} {gs ss:Sl} {given:List Int} {rs:List R} {b c:Nat} (hzk:∀ H',Adv2 b c H H'→PuzAt H' n gs ss given rs) (hnil:gs.nil=false) {σ:Type} {step:σ→List Int→σ × Bool} {T:Nat→Nat→σ × Bool→Hp→Prop} {K:Nat} {f:FuncId} {caps:List AV} (hbl:b < H.length) (hcl:c < H.length) (hcB:B.length ≤ c)
  (tell:∀ d,H.length ≤ d→Tell B f caps b d step (T d) K) (st:σ) (hT:∀ d H1,H.length ≤ d→d < H1.length→H <+: H1→T d c (st,true) H1) {k:Nat} (hk:K + 2000400 ≤ k) :
  ∃ H' c' d,callF PP orc k impl_solutions.id [.agg [.int .i64 n,.sl 1 gs,.sl 3 ss],.sl 1 gs,.fn f caps] H=some (.tup [],H')∧B <+: H'∧Adv2 b c H H'∧T d c' (runL step st (allSols n given (rs.map R.val))) H':=by
 obtain ⟨k,rfl⟩:=Zs k (by omega)
 rw [impl_solutions.call]
 have hz:=hzk H (pf_adv2 (List.prefix_refl _))
 have hgl:=hz.gl
 obtain ⟨Ha,hHa⟩:∃ X,H ++ [some (Blk.mk false [.int .i64 n,.sl 1 gs,.sl 3 ss])]=X:=⟨_,rfl⟩
 obtain ⟨Hb,hHb⟩:∃ X,Ha ++ [some (Blk.mk false [.fn f caps])]=X:=⟨_,rfl⟩
 have la:Ha.length=H.length + 1:=by rw [← hHa]; simp
 have lb:Hb.length=H.length + 2:=by rw [← hHb]; simp; omega
 have pa:H <+: Ha:=by rw [← hHa]; exact List.prefix_append _ _
 have pb:Ha <+: Hb:=by rw [← hHb]; exact List.prefix_append _ _
 have ba:Ha[H.length]?=some (some ⟨false,[.int .i64 n,.sl 1 gs,.sl 3 ss]⟩):=by rw [← hHa]; simp
 have bb:Hb[Ha.length]?=some (some ⟨false,[.fn f caps]⟩):=by rw [← hHb]; simp
 have pBb:=(hB.trans pa).trans pb
 have c1:=Clone_own (show 1 ≤ k by omega) (pf_reads (pa.trans pb) hz.rg) hnil (by omega)
 obtain ⟨Hc,hHc⟩:∃ X,Hb ++ [some (Blk.mk false (given.map (.int .i64)))]=X:=⟨_,rfl⟩
 rw [hHc] at c1
 have lc:Hc.length=H.length + 3:=by rw [← hHc]; simp; omega
 have pc:Hb <+: Hc:=by rw [← hHc]; exact List.prefix_append _ _
 have hown:Own 1 Hb Hc (Sl.mk false Hb.length 0 given.length) (given.map (.int .i64)):=by rw [← hHc]; exact own_new 1 Hb _ _ (by simp)
 obtain ⟨Hd,d1,d2,d3,d4⟩:=sto_end (H:=Hc) (x:=.sl 1 Sl.none) (.sl 1 (Sl.mk false Hb.length 0 given.length))
 have qa:=pf_get ((pb.trans pc).trans d2) ba
 have qb:=pf_get (pc.trans d2) bb
 have pBd:=(pBb.trans pc).trans d2
 have ho:=own_pf hown d2
 have r1:ldI .i64 Hd H.length 0=some n:=by unfold ldI Hp.cell; rw [qa]; simp [AV.toI]
 have r2:ldS 1 Hd H.length (0 + 1)=some gs:=by unfold ldS Hp.cell; rw [qa]; simp [AV.toS]
 have r3:ldS 3 Hd H.length (0 + 1 + 1)=some ss:=by unfold ldS Hp.cell; rw [qa]; simp [AV.toS]
 have r4:=box_sl d3
 obtain ⟨He,e1,e2⟩:=implPuzzleFits_ok (show 2000042 ≤ k by omega) (hz.pf (((pa.trans pb).trans pc).trans d2)) (own_reads ho) hgl
 have pHe:H <+: He:=(((pa.trans pb).trans pc).trans d2).trans e2
 have hle:=e2.length_le
 unfold allSols
 cases cf:puzzleFitsV n given (rs.map R.val) given with
 | false=>
  rw [cf] at e1
  rw [iN (by simp)]
  refine ⟨He,c,Hb.length,?_,pBd.trans e2,pf_adv2 pHe,by rw [runL]; exact hT _ _ (by omega) (by omega) pHe⟩
  simp (disch:=omega) only [impl_solutions.f,dt,df,bt,bf,nt,nf,Za,Zy,Zx,Zt,Zf,Zn,Zz,Zi,Zo,wr,AV.toB,AV.toI,AV.toS,if_true,hHa,hHb,c1,d1,r1,r2,r3,r4,e1]
 | true=>
  rw [cf] at e1
  rw [ip rfl]
  unfold puzzleFitsV at cf
  simp only [Bool.and_eq_true] at cf
  obtain ⟨q1,q2,q3⟩:=puzzleV_iff cf.1
  have h16:=gridOk_len q1
  have ra:=pf_get e2 qa
  have s1:ldI .i64 He H.length (0 + 0)=some n:=by unfold ldI Hp.cell; rw [ra]; simp [AV.toI]
  obtain ⟨Hf,f1,f2,f3,f4⟩:=sto_end (H:=He) (x:=.int .i64 0) (.int .i64 n)
  obtain ⟨Hg,g1,g2,g3,g4⟩:=sto_end (H:=Hf) (x:=.nilf) (.fn impl_solutions_1.id [.ptr Hc.length 0,.ptr Ha.length 0,.ptr Hf.length 0,.ptr He.length 0,.ptr H.length 0])
  have s2:=box_fn g3
  have pBg:=((pBd.trans e2).trans f2).trans g2
  have pHg:=(pHe.trans f2).trans g2
  have hBH:=hB.length_le
  have hog:Own 1 B Hg (Sl.mk false Hb.length 0 given.length) (given.map (.int .i64)):=own_base (own_pf ho ((e2.trans f2).trans g2)) pBb
  have hbx:Bx Hg Hc.length Ha.length Hf.length He.length H.length n (Sl.mk false Hb.length 0 given.length) gs ss f caps:=
   ⟨pf_get ((e2.trans f2).trans g2) d3,pf_get ((e2.trans f2).trans g2) qb,g3,pf_get g2 f3,pf_get (f2.trans g2) ra⟩
  obtain ⟨H',c',g',w1,w2,w3,w4,w5,w6,w7,w8⟩:=Sol_ok (tell Hb.length (by omega)) (gs:=Sl.mk false Hb.length 0 given.length) (H0:=H) (c0:=c) hz.n4 hzk (by simp only; omega) q3 q1 (gb:=Hc.length) (tb:=Ha.length) (yb:=Hf.length) (nb:=He.length) (pb:=H.length) ⟨(by first | omega | (simp only; omega) | (simp; omega)),(by first | omega | (simp only; omega) | (simp; omega)),(by first | omega | (simp only; omega) | (simp; omega)),(by first | omega | (simp only; omega) | (simp; omega)),(by first | omega | (simp only; omega) | (simp; omega))⟩ ⟨(by first | omega | (simp only; omega) | (simp; omega)),(by first | omega | (simp only; omega) | (simp; omega)),(by first | omega | (simp only; omega) | (simp; omega)),(by first | omega | (simp only; omega) | (simp; omega)),(by first | omega | (simp only; omega) | (simp; omega))⟩ given.length k (by omega) Hg given c st (Nat.le_refl _) pBg hbx ⟨(by first | omega | (simp only; omega) | (simp; omega)),(by first | omega | (simp only; omega) | (simp; omega)),(by first | omega | (simp only; omega) | (simp; omega)),(by first | omega | (simp only; omega) | (simp; omega)),(by first | omega | (simp only; omega) | (simp; omega))⟩ (by simp only; omega) hcB hog q1 (Le.refl given) cf.2.2 (hT _ _ (by omega) (by omega) pHg) (pf_adv2 pHg) (.inl rfl)
  rw [Nat.sub_self] at w1
  have w1':callF PP orc k impl_solutions_1.id ([.int .i64 0] ++ [.ptr Hc.length 0,.ptr Ha.length 0,.ptr Hf.length 0,.ptr He.length 0,.ptr H.length 0]) Hg=_:=w1
  refine ⟨H',c',Hb.length,?_,w2,?_,w7⟩
  ·have hcg:([.int .i64 0] ++ [.ptr Hc.length 0,.ptr Ha.length 0,.ptr Hf.length 0,.ptr He.length 0,.ptr H.length 0]:List AV).all AV.glob=true:=rfl
   simp (disch:=omega) only [impl_solutions.f,dt,df,bt,bf,nt,nf,Za,Zy,Zx,Zt,Zf,Zn,Zz,Zi,Zo,wr,AV.toB,AV.toI,AV.toS,if_true,hHa,hHb,c1,d1,r1,r2,r3,r4,e1,s1,f1,g1,s2,okSol,hcg,w1']
  ·refine ⟨fun e x h1 h2 hx=>?_,by have:=w3.le; have:=pHg.length_le; omega⟩
   have hel:=(List.getElem?_eq_some_iff.1 hx).1
   exact w3.but e x (by simp only; omega) h1 h2 (pf_get pHg hx)
theorem solutions_ok {B H:Hp} (hB:B <+: H) {n:Int} {gs ss:Sl} {given:List Int} {rs:List R} (hz:PuzAt B n gs ss given rs) (hnil:gs.nil=false) {σ:Type} {step:σ→List Int→σ × Bool} {T:Nat→Nat→σ × Bool→Hp→Prop} {K b c:Nat} {f:FuncId} {caps:List AV} (hbl:b < H.length) (hcl:c < H.length) (hbB:B.length ≤ b) (hcB:B.length ≤ c)
  (tell:∀ d,H.length ≤ d→Tell B f caps b d step (T d) K) (st:σ) (hT:∀ d H1,H.length ≤ d→d < H1.length→H <+: H1→T d c (st,true) H1) {k:Nat} (hk:K + 2000400 ≤ k) :
  ∃ H' c' d,callF PP orc k impl_solutions.id [.agg [.int .i64 n,.sl 1 gs,.sl 3 ss],.sl 1 gs,.fn f caps] H=some (.tup [],H')∧B <+: H'∧Adv2 b c H H'∧T d c' (runL step st (allSols n given (rs.map R.val))) H':=
 solutions_gen hB (fun H' a=>hz.pf (a.pf hbB hcB hB)) hnil hbl hcl hcB tell st hT hk
theorem firstSolutions_ok {k:Nat} (hk:2000500 ≤ k) {H:Hp} {n:Int} {gs s:Sl} {given:List Int} {rs:List R} (hz:PuzAt H n gs s given rs) (hnil:gs.nil=false) {most:Nat} (h0:1 ≤ most) (hmost:most ≤ 1000) :
  ∃ t H',callF PP orc k impl_firstSolutions.id [.agg [.int .i64 n,.sl 1 gs,.sl 3 s],.sl 1 gs,.int .i64 (most:Int)] H=some (.sl 1 t,H')∧H <+: H'∧ReadsL H H' t ((allSols n given (rs.map R.val)).take most):=by
 obtain ⟨k,rfl⟩:=Zs k (by omega)
 rw [impl_firstSolutions.call]
 obtain ⟨Ha,hHa⟩:∃ X,H ++ [some (Blk.mk false [.int .i64 (most:Int)])]=X:=⟨_,rfl⟩
 obtain ⟨Hb,hHb⟩:∃ X,Ha ++ [some (Blk.mk false ([]:List AV))]=X:=⟨_,rfl⟩
 have la:Ha.length=H.length + 1:=by rw [← hHa]; simp
 have lb:Hb.length=H.length + 2:=by rw [← hHb]; simp; omega
 have pa:H <+: Ha:=by rw [← hHa]; exact List.prefix_append _ _
 have pb:Ha <+: Hb:=by rw [← hHb]; exact List.prefix_append _ _
 have ba:Ha[H.length]?=some (some ⟨false,[.int .i64 (most:Int)]⟩):=by rw [← hHa]; simp
 have bb:Hb[Ha.length]?=some (some ⟨false,[]⟩):=by rw [← hHb]; simp
 obtain ⟨Hc,c1,c2,c3,c4⟩:=sto_end (H:=Hb) (x:=.sl 1 Sl.none) (.sl 1 (Sl.mk false Ha.length 0 0))
 have pHc:=(pa.trans pb).trans c2
 have ho1:∀ d,Hc.length ≤ d→OutD H Hb.length d Hc (Sl.mk false Ha.length 0 0) []:=fun d hd=>
  ⟨c3,by omega,by simp only; omega,by omega,by simp only; omega,[],⟨rfl,rfl,by simp only; omega,pf_get c2 bb,rfl⟩,rfl,fun i hi=>by simp at hi⟩
 obtain ⟨H',c',d,w1,w2,w3,⟨⟨o,w4,w5⟩,w6,w7,w8,w9,w10,w11⟩⟩:=solutions_ok (B:=H) (H:=Hc) pHc hz hnil (b:=Hb.length) (c:=Ha.length) (K:=10) (T:=TF H Hb.length H.length most) (step:=stepF most) (f:=impl_firstSolutions_1.id) (caps:=[.ptr Hb.length 0,.ptr H.length 0]) (by omega) (by omega) (by omega) (by omega)
  (fun d hd=>tell_first (by omega) (by omega) (by omega)) [] (fun d H1 h1 h2 h3=>⟨⟨_,rfl,(ho1 d h1).pf h3⟩,pf_get (((pb.trans c2)).trans h3) ba,by omega,by omega,by omega,h2,fun _=>by simp; omega⟩) (show 10 + 2000400 ≤ k by omega)
 rw [runL_first most _ [] (by simp; omega)] at w5
 simp only [List.nil_append,Zm,Nat.sub_zero] at w5
 have hl:ldS 1 H' Hb.length 0=some o:=box_sl w5.cell
 refine ⟨o,H',?_,w2,w5.reads⟩
 simp (disch:=omega) only [impl_firstSolutions.f,dt,df,bt,bf,nt,nf,Za,Zy,Zx,Zt,Zf,Zn,Zz,Zi,Zo,wr,AV.toB,AV.toI,AV.toS,if_true,hHa,hHb,c1,w1,hl]
theorem ext_getD {a b:List Int} (hl:a.length=b.length) (h:∀ i,i < a.length→a.getD i 0=b.getD i 0):a=b:=by
 apply List.ext_getElem hl
 intro i h1 h2
 have:=h i h1
 rw [List.getD_eq_getElem?_getD,List.getElem?_eq_getElem h1,List.getD_eq_getElem?_getD,List.getElem?_eq_getElem h2] at this
 exact this
theorem grid_set'' {g:List Int} {n:Int} (h:gridOk g n=true) (i:Nat) (v:Int) (hv:0 ≤ v∧v ≤ n):gridOk (g.set i v) n=true:=by
 obtain ⟨h1,h2,h3⟩:=(gridOk_iff g n).1 h
 refine (gridOk_iff _ n).2 ⟨h1,by simpa using h2,fun x hx=>?_⟩
 rcases List.mem_or_eq_of_mem_set hx with h | h
 ·exact h3 x h
 ·subst h; exact hv
theorem Le.up {g x:List Int} (h:Le g x) {i:Nat} (hi:i < g.length):Le (g.set i (x.getD i 0)) x:=⟨by simpa using h.1,fun j=>by
 rw [getD_set]
 split
 ·rename_i e; right; rw [e.1]
 ·exact h.2 j⟩
theorem Le.set {g:List Int} {i:Nat} (h0:g.getD i 0=0) (v:Int):Le g (g.set i v):=⟨by simp,fun j=>by
 rw [getD_set]
 split
 ·rename_i e; left; rw [← e.1]; exact h0
 ·exact .inr rfl⟩
def full (x:List Int):Prop:=∀ i,i < x.length→0 < x.getD i 0
theorem mem_sols {n:Int} {f:List Int→Bool} (hf:∀ g' g,Le g' g→gridOk g n=true→f g=true→f g'=true):∀ (rem:Nat) (g:List Int),rem ≤ g.length→gridOk g n=true→(∀ i,i < g.length - rem→0 < g.getD i 0)→f g=true→∀ x,x ∈ sols f n.toNat rem g ↔ gridOk x n=true∧Le g x∧full x∧f x=true:=by
 intro rem
 induction rem with
 | zero=>
  intro g hr hg hfu hfg x
  rw [sols,List.mem_singleton]
  constructor
  ·rintro rfl
   exact ⟨hg,Le.refl _,fun i hi=>hfu i (by omega),hfg⟩
  ·rintro ⟨h1,h2,h3,h4⟩
   refine (ext_getD h2.1 fun i hi=>?_).symm
   have:=hfu i (by omega)
   rcases h2.2 i with e | e
   ·omega
   ·exact e
 | succ rem ih=>
  intro g hr hg hfu hfg x
  have hat:g.length - (rem + 1) < g.length:=by omega
  obtain ⟨hn,h2,h3⟩:=(gridOk_iff g n).1 hg
  by_cases c:0 < g.getD (g.length - (rem + 1)) 0
  ·rw [sols,if_pos c]
   refine ih g (by omega) hg (fun i hi=>?_) hfg x
   by_cases e:i=g.length - (rem + 1)
   ·rw [e]; exact c
   ·exact hfu i (by omega)
  ·rw [sols,if_neg c,List.mem_flatMap]
   have hv:=h3 _ (mem_getD hat)
   have h0:g.getD (g.length - (rem + 1)) 0=0:=by omega
   have go:∀ v,1 ≤ v∧v ≤ n→f (g.set (g.length - (rem + 1)) v)=true→(x ∈ sols f n.toNat rem (g.set (g.length - (rem + 1)) v) ↔ gridOk x n=true∧Le (g.set (g.length - (rem + 1)) v) x∧full x∧f x=true):=fun v hv1 hfv=>by
    refine ih _ (by simp; omega) (grid_set'' hg _ v ⟨by omega,by omega⟩) (fun i hi=>?_) hfv x
    rw [List.length_set] at hi
    rw [getD_set]
    split
    ·omega
    ·rename_i e
     exact hfu i (by omega)
   constructor
   ·rintro ⟨v,hv1,hx⟩
    rw [mem_upto] at hv1
    split at hx
    ·rename_i hfv
     obtain ⟨q1,q2,q3,q4⟩:=(go v (by omega) hfv).1 hx
     exact ⟨q1,(Le.set h0 v).trans q2,q3,q4⟩
    ·cases hx
   ·rintro ⟨q1,q2,q3,q4⟩
    obtain ⟨_,l2,l3⟩:=(gridOk_iff x n).1 q1
    have hlx:g.length - (rem + 1) < x.length:=by rw [← q2.1]; exact hat
    have hxv:=l3 _ (mem_getD hlx)
    have hxp:=q3 _ hlx
    have hup:=q2.up hat
    have hfv:=hf _ _ hup q1 q4
    refine ⟨x.getD (g.length - (rem + 1)) 0,(mem_upto _ _ _).2 (by omega),?_⟩
    rw [if_pos hfv]
    exact (go _ (by omega) hfv).2 ⟨q1,hup,q3,q4⟩
theorem puzzleV_grid {n:Int} {given:List Int} {vs:List V} (h:puzzleV n given vs=true):gridOk given n=true∧vs.all (ruleOkV n)=true:=by
 unfold puzzleV at h
 simp only [Bool.and_eq_true] at h
 exact ⟨h.1,h.2.2⟩
theorem mem_allSols {n:Int} {given:List Int} {vs:List V} (hp:puzzleV n given vs=true) (x:List Int):x ∈ allSols n given vs ↔ gridOk x n=true∧Le given x∧full x∧fitsV n given vs x=true:=by
 obtain ⟨hg,hv⟩:=puzzleV_grid hp
 have anti:∀ g' g,Le g' g→gridOk g n=true→fitsV n given vs g=true→fitsV n given vs g'=true:=fun g' g h1 h2 h3=>fits_anti h1 h2 hv h3
 unfold allSols
 by_cases c:puzzleFitsV n given vs given=true
 ·rw [if_pos c]
  have c':=c
  unfold puzzleFitsV at c'
  simp only [Bool.and_eq_true] at c'
  exact mem_sols anti _ _ (Nat.le_refl _) hg (fun i hi=>by omega) c'.2.2 x
 ·rw [if_neg c]
  constructor
  ·intro h; cases h
  ·rintro ⟨h1,h2,h3,h4⟩
   refine absurd ?_ c
   unfold puzzleFitsV
   rw [hp,hg,anti _ _ h2 h1 h4]; rfl

def LexLt (x y:List Int):Prop:=∃ i,(∀ j,j < i→x.getD j 0=y.getD j 0)∧x.getD i 0 < y.getD i 0
theorem LexLt.asymm {x y:List Int} (h:LexLt x y) (h':LexLt y x):False:=by
 obtain ⟨i,h1,h2⟩:=h
 obtain ⟨j,h3,h4⟩:=h'
 rcases Nat.lt_trichotomy i j with e | e | e
 ·have:=h3 i e; omega
 ·subst e; omega
 ·have:=h1 j e; omega
theorem sorted_ext:∀ (A B:List (List Int)),A.Pairwise LexLt→B.Pairwise LexLt→(∀ x,x ∈ A ↔ x ∈ B)→A=B
 | [],[],_,_,_=>rfl
 | [],b :: B,_,_,h=>by have:=(h b).2 (by simp); cases this
 | a :: A,[],_,_,h=>by have:=(h a).1 (by simp); cases this
 | a :: A,b :: B,hA,hB,h=>by
  have a1:=(List.pairwise_cons.1 hA).1
  have b1:=(List.pairwise_cons.1 hB).1
  have irr:∀ x:List Int,¬ LexLt x x:=fun x hx=>hx.asymm hx
  have e:a=b:=by
   rcases List.mem_cons.1 ((h a).1 (by simp)) with e | e
   ·exact e
   ·rcases List.mem_cons.1 ((h b).2 (by simp)) with e' | e'
    ·exact e'.symm
    ·exact ((b1 a e).asymm (a1 b e')).elim
  subst e
  congr 1
  refine sorted_ext A B (List.Pairwise.of_cons hA) (List.Pairwise.of_cons hB) fun x=>?_
  constructor
  ·intro hx
   rcases List.mem_cons.1 ((h x).1 (List.mem_cons_of_mem _ hx)) with e | e
   ·subst e; exact (irr _ (a1 _ hx)).elim
   ·exact e
  ·intro hx
   rcases List.mem_cons.1 ((h x).2 (List.mem_cons_of_mem _ hx)) with e | e
   ·subst e; exact (irr _ (b1 _ hx)).elim
   ·exact e
theorem upto_lt:∀ (j:Nat) (v:Int),(upto j v).Pairwise (fun a b=>a < b)
 | 0,v=>List.Pairwise.nil
 | j + 1,v=>by
  rw [upto]
  refine List.Pairwise.cons (fun w hw=>?_) (upto_lt j (v + 1))
  rw [mem_upto] at hw; omega
theorem sols_lt {n:Int} {f:List Int→Bool} (hf:∀ g' g,Le g' g→gridOk g n=true→f g=true→f g'=true):∀ (rem:Nat) (g:List Int),rem ≤ g.length→gridOk g n=true→(∀ i,i < g.length - rem→0 < g.getD i 0)→f g=true→(sols f n.toNat rem g).Pairwise LexLt:=by
 intro rem
 induction rem with
 | zero=>intro g hr hg hfu hfg; rw [sols]; simp
 | succ rem ih=>
  intro g hr hg hfu hfg
  have hat:g.length - (rem + 1) < g.length:=by omega
  obtain ⟨hn,h2,h3⟩:=(gridOk_iff g n).1 hg
  by_cases c:0 < g.getD (g.length - (rem + 1)) 0
  ·rw [sols,if_pos c]
   refine ih g (by omega) hg (fun i hi=>?_) hfg
   by_cases e:i=g.length - (rem + 1)
   ·rw [e]; exact c
   ·exact hfu i (by omega)
  ·rw [sols,if_neg c]
   have fill:∀ v,1 ≤ v∧v ≤ n→∀ i,i < (g.set (g.length - (rem + 1)) v).length - rem→0 < (g.set (g.length - (rem + 1)) v).getD i 0:=fun v hv1 i hi=>by
    rw [List.length_set] at hi
    rw [getD_set]
    split
    ·omega
    ·rename_i e
     exact hfu i (by omega)
   rw [List.pairwise_flatMap]
   constructor
   ·intro v hv1
    rw [mem_upto] at hv1
    split
    ·rename_i hfv
     exact ih _ (by simp; omega) (grid_set'' hg _ v ⟨by omega,by omega⟩) (fill v (by omega)) hfv
    ·exact List.Pairwise.nil
   ·refine List.Pairwise.imp_of_mem (fun {a b} ha hb hab x hx y hy=>?_) (upto_lt n.toNat 1)
    rw [mem_upto] at ha hb
    split at hx
    ·rename_i hfa
     split at hy
     ·rename_i hfb
      have m1:=((mem_sols hf rem _ (by simp; omega) (grid_set'' hg _ a ⟨by omega,by omega⟩) (fill a (by omega)) hfa x).1 hx).2.1
      have m2:=((mem_sols hf rem _ (by simp; omega) (grid_set'' hg _ b ⟨by omega,by omega⟩) (fill b (by omega)) hfb y).1 hy).2.1
      refine ⟨g.length - (rem + 1),fun j hj=>?_,?_⟩
      ·have p:=hfu j hj
       have e1:=m1.2 j
       have e2:=m2.2 j
       rw [getD_set,if_neg (by omega)] at e1 e2
       omega
      ·have e1:=m1.2 (g.length - (rem + 1))
       have e2:=m2.2 (g.length - (rem + 1))
       rw [getD_set,if_pos ⟨rfl,hat⟩] at e1 e2
       omega
     ·cases hy
    ·cases hx
theorem allSols_lt {n:Int} {given:List Int} {vs:List V} (hp:puzzleV n given vs=true):(allSols n given vs).Pairwise LexLt:=by
 obtain ⟨hg,hv⟩:=puzzleV_grid hp
 unfold allSols
 by_cases c:puzzleFitsV n given vs given=true
 ·rw [if_pos c]
  unfold puzzleFitsV at c
  simp only [Bool.and_eq_true] at c
  exact sols_lt (fun g' g h1 h2 h3=>fits_anti h1 h2 hv h3) _ _ (Nat.le_refl _) hg (fun i hi=>by omega) c.2.2
 ·rw [if_neg c]; exact List.Pairwise.nil
theorem zeros_len {n:Int} (hn:2 ≤ n∧n ≤ 4):((zeros n).length:Int)=n * n∧(zeros n).length=(n * n).toNat∧(n * n).toNat ≤ 16:=by
 have:n=2 ∨ n=3 ∨ n=4:=by omega
 rcases this with rfl | rfl | rfl <;> decide
theorem zeros_at (n:Int) (i:Nat):(zeros n).getD i 0=0:=by
 unfold zeros
 rw [List.getD_eq_getElem?_getD,List.getElem?_replicate]
 split <;> rfl
theorem zeros_grid {n:Int} (hn:2 ≤ n∧n ≤ 4):gridOk (zeros n) n=true:=(gridOk_iff _ _).2 ⟨hn,(zeros_len hn).1,fun v hv=>by
 have:=(List.mem_replicate.1 hv).2; omega⟩
theorem zeros_clash {n:Int} (hn:2 ≤ n∧n ≤ 4):clash (zeros n) n=false:=by
 have:n=2 ∨ n=3 ∨ n=4:=by omega
 rcases this with rfl | rfl | rfl <;> decide
theorem zeros_Le {n:Int} {x:List Int} (hx:gridOk x n=true):Le (zeros n) x:=by
 obtain ⟨hn,h2,_⟩:=(gridOk_iff x n).1 hx
 have:=zeros_len hn
 exact ⟨by omega,fun i=>.inl (zeros_at n i)⟩
theorem clash_antiB (n:Int):∀ g' g,Le g' g→gridOk g n=true→(!clash g n)=true→(!clash g' n)=true:=fun g' g h1 _ h3=>by
 rw [Bool.not_eq_true'] at h3 ⊢; exact clash_anti h1 n h3
theorem mem_squares {n:Int} (hn:2 ≤ n∧n ≤ 4) (x:List Int):x ∈ squares n ↔ gridOk x n=true∧full x∧clash x n=false:=by
 unfold squares
 rw [mem_sols (clash_antiB n) _ _ (by have:=zeros_len hn; omega) (zeros_grid hn) (fun i hi=>by have:=zeros_len hn; omega) (by rw [zeros_clash hn]; rfl) x]
 constructor
 ·rintro ⟨a,b,c,d⟩; exact ⟨a,c,by simpa using d⟩
 ·rintro ⟨a,c,d⟩; exact ⟨a,zeros_Le a,c,by simpa using d⟩
theorem squares_lt {n:Int} (hn:2 ≤ n∧n ≤ 4):(squares n).Pairwise LexLt:=by
 unfold squares
 exact sols_lt (clash_antiB n) _ _ (by have:=zeros_len hn; omega) (zeros_grid hn) (fun i hi=>by have:=zeros_len hn; omega) (by rw [zeros_clash hn]; rfl)
theorem filled_eq {g:List Int}:filled g=g.length ↔ full g:=by
 unfold filled full
 rw [List.countP_eq_length]
 constructor
 ·intro h i hi; simpa using h _ (mem_getD hi)
 ·intro h v hv
  obtain ⟨i,hi,rfl⟩:=List.getElem_of_mem hv
  have:=h i hi
  rw [List.getD_eq_getElem?_getD,List.getElem?_eq_getElem hi] at this
  simpa using this
theorem solved_iff {n:Int} {given:List Int} {vs:List V} (hp:puzzleV n given vs=true) (x:List Int):puzzleSolvedV n given vs x=true ↔ x ∈ allSols n given vs:=by
 rw [mem_allSols hp]
 obtain ⟨hg,_⟩:=puzzleV_grid hp
 unfold puzzleSolvedV puzzleFitsV
 simp only [Bool.and_eq_true,decide_eq_true_eq,hp,true_and,filled_eq]
 constructor
 ·rintro ⟨⟨a,b⟩,c⟩
  refine ⟨a,⟨by have:=grid_len_eq hg a; exact this,fun i=>?_⟩,c,b⟩
  unfold fitsV at b
  simp only [Bool.and_eq_true] at b
  have b1:=b.1
  rw [compatB_iff] at b1
  have hl:=grid_len_eq hg a
  by_cases hi:i < x.length
  ·by_cases h0:given.getD i 0=0
   ·exact .inl h0
   ·right
    have hv:=((gridOk_iff given n).1 hg).2.2 _ (mem_getD (show i < given.length by omega))
    exact (b1 i hi (by omega) (c i hi)).symm
  ·left
   rw [List.getD_eq_getElem?_getD,List.getElem?_eq_none (by omega)]; rfl
 ·rintro ⟨a,b,c,d⟩
  exact ⟨⟨a,d⟩,c⟩
theorem sol_square {n:Int} {given:List Int} {vs:List V} (hp:puzzleV n given vs=true) {x:List Int} (hx:x ∈ allSols n given vs):x ∈ squares n:=by
 rw [mem_allSols hp] at hx
 have hn:=((gridOk_iff x n).1 hx.1).1
 rw [mem_squares hn]
 refine ⟨hx.1,hx.2.2.1,?_⟩
 have:=hx.2.2.2
 unfold fitsV at this
 simp only [Bool.and_eq_true,Bool.not_eq_true'] at this
 exact this.2.2
theorem sols_filter {n:Int} {given:List Int} {vs:List V} (hp:puzzleV n given vs=true):allSols n given vs=(squares n).filter (puzzleSolvedV n given vs):=by
 have hn:=((gridOk_iff given n).1 (puzzleV_grid hp).1).1
 refine sorted_ext _ _ (allSols_lt hp) ((squares_lt hn).filter _) fun x=>?_
 rw [List.mem_filter,solved_iff hp]
 constructor
 ·intro h; exact ⟨sol_square hp h,h⟩
 ·intro h; exact h.2
theorem zeros_puzzle {n:Int} (hn:2 ≤ n∧n ≤ 4):puzzleV n (zeros n) []=true:=by
 unfold puzzleV; rw [zeros_grid hn]; rfl
theorem sols_zeros {n:Int} (hn:2 ≤ n∧n ≤ 4):allSols n (zeros n) []=squares n:=by
 rw [sols_filter (zeros_puzzle hn)]
 refine List.filter_eq_self.2 fun x hx=>?_
 rw [solved_iff (zeros_puzzle hn),mem_allSols (zeros_puzzle hn)]
 rw [mem_squares hn] at hx
 refine ⟨hx.1,zeros_Le hx.1,hx.2.1,?_⟩
 unfold fitsV
 rw [hx.2.2]
 simp only [List.all_nil,Zx,Za,Bool.and_true]
 rw [compatB_iff]
 intro i _ h; rw [zeros_at] at h; omega
/-! ### How many squares there are -/
theorem sols_cnt {n:Int}:∀ (rem:Nat) (g:List Int),g.length=(n * n).toNat→rem ≤ g.length→(∀ i,g.length - rem ≤ i→g.getD i 0=0)→(sols (fun g=>!clash g n) n.toNat rem g).length=cnt n rem g
 | 0,g,_,_,_=>rfl
 | rem + 1,g,hl,hr,hz=>by
  have h0:=hz (g.length - (rem + 1)) (Nat.le_refl _)
  rw [sols,if_neg (by omega),cnt]
  have key:∀ (j:Nat) (v:Int),((upto j v).flatMap fun v=>if (!clash (g.set (g.length - (rem + 1)) v) n)=true then sols (fun g=>!clash g n) n.toNat rem (g.set (g.length - (rem + 1)) v) else []).length=cntV (fun v=>if clash (g.set ((n * n).toNat - (rem + 1)) v) n=true then 0 else cnt n rem (g.set ((n * n).toNat - (rem + 1)) v)) j v:=by
   intro j
   induction j with
   | zero=>intro v; rfl
   | succ j ih=>
    intro v
    rw [upto,List.flatMap_cons,List.length_append,ih,cntV,← hl]
    congr 1
    cases hc:clash (g.set (g.length - (rem + 1)) v) n with
    | true=>simp
    | false=>
     rw [if_pos (by simp),if_neg (by simp)]
     refine sols_cnt rem _ (by simpa using hl) (by simp; omega) fun i hi=>?_
     rw [List.length_set] at hi
     rw [getD_set,if_neg (by omega)]
     exact hz i (by omega)
  exact key _ _
theorem squares_len {n:Int} (hn:2 ≤ n∧n ≤ 4):(squares n).length ≤ 576∧(n < 4→(squares n).length ≤ 12):=by
 have hz:=zeros_len hn
 unfold squares
 rw [sols_cnt _ _ hz.2.1 (by omega) (fun i _=>zeros_at n i)]
 unfold zeros
 have:n=2 ∨ n=3 ∨ n=4:=by omega
 rcases this with rfl | rfl | rfl
 ·have:=cnt2; constructor <;> (intros; exact Nat.le_trans (Nat.le_of_eq this) (by omega))
 ·have:=cnt3; constructor <;> (intros; exact Nat.le_trans (Nat.le_of_eq this) (by omega))
 ·have:=cnt4; exact ⟨Nat.le_of_eq this,fun h=>by omega⟩
theorem squares_pos {n:Int} (hn:2 ≤ n∧n ≤ 4) {x:List Int} (hx:x ∈ squares n):fullG x n∧gridOk x n=true∧full x∧clash x n=false∧x.length ≤ 16:=by
 rw [mem_squares hn] at hx
 obtain ⟨_,h2,h3⟩:=(gridOk_iff x n).1 hx.1
 have:=zeros_len hn
 refine ⟨⟨by omega,fun v hv=>?_⟩,hx.1,hx.2.1,hx.2.2,gridOk_len hx.1⟩
 obtain ⟨i,hi,rfl⟩:=List.getElem_of_mem hv
 have p:=hx.2.1 i hi
 rw [List.getD_eq_getElem?_getD,List.getElem?_eq_getElem hi] at p
 have p':0 < x[i]:=by simpa using p
 exact ⟨by omega,(h3 _ (List.getElem_mem hi)).2⟩
def squareV (n x:Int):List Int:=if (2 ≤ n∧n ≤ 4)∧0 ≤ x then ((squares n)[x.toNat]?).getD [] else []
def stepN:Nat × Option (List Int)→List Int→(Nat × Option (List Int)) × Bool
 | (0,_),x=>((0,some x),false)
 | (m + 1,o),_=>((m,o),true)
theorem runL_nth:∀ (L:List (List Int)) (m:Nat),(runL stepN (m,none) L).1.2=L[m]?
 | [],m=>by simp [runL]
 | x :: L,0=>by simp [runL,stepN]
 | x :: L,m + 1=>by
  rw [runL]
  simp only [stepN,if_true]
  rw [runL_nth L m]
  simp
structure TN (B:Hp) (fb nb d c:Nat) (st:(Nat × Option (List Int)) × Bool) (H:Hp):Prop where
 hc:c=nb
 num:H[nb]?=some (some ⟨false,[.int .i64 (st.1.1:Int)]⟩)
 fnd:∃ s,H[fb]?=some (some ⟨false,[.sl 1 s]⟩)∧((st.1.2=none∧s=Sl.none) ∨ ∃ x,st.1.2=some x∧Own 1 B H s (x.map (.int .i64))∧s.blk ≠ d)
 nf:nb ≠ fb
 nd:nb ≠ d
 fd:fb ≠ d
 dl:d < H.length
 le:st.1.1 ≤ 1000000
 no:st.2=true→st.1.2=none
theorem box_int {H:Hp} {b:Nat} {n:Int} (h:H[b]?=some (some ⟨false,[.int .i64 n]⟩)):ldI .i64 H b 0=some n:=by unfold ldI Hp.cell; rw [h]; simp [AV.toI]
theorem tell_num {B:Hp} {fb nb d:Nat} (hnf:nb ≠ fb) (hfd:fb ≠ d) (hfB:B.length ≤ fb):Tell B impl_SquareNumber_1.id [.ptr nb 0,.ptr fb 0] fb d stepN (TN B fb nb d) 10:=by
 refine ⟨by kernel_rfl,rfl,hfB,hfd,?_,?_,?_⟩
 ·intro c st H H' h g
  obtain ⟨s,h1,h2⟩:=h.fnd
  refine ⟨h.hc,pf_get g h.num,⟨s,pf_get g h1,?_⟩,h.nf,h.nd,h.fd,Nat.lt_of_lt_of_le h.dl g.length_le,h.le,h.no⟩
  rcases h2 with h2 | ⟨x,h2,h3,h4⟩
  ·exact .inl h2
  ·exact .inr ⟨x,h2,own_pf h3 g,h4⟩
 ·intro c st H H' h g hl
  obtain ⟨s,h1,h2⟩:=h.fnd
  refine ⟨h.hc,g _ _ h.nd h.num,⟨s,g _ _ h.fd h1,?_⟩,h.nf,h.nd,h.fd,by have:=h.dl; omega,h.le,h.no⟩
  rcases h2 with h2 | ⟨x,h2,h3,h4⟩
  ·exact .inl h2
  ·exact .inr ⟨x,h2,g.own h4 h3,h4⟩
 ·intro k hk c st H t g h hB hr h16 htd htn hcd hcB
  obtain ⟨k,rfl⟩:=Zs k (by omega)
  obtain ⟨s,h1,h2⟩:=h.fnd
  have ho:=h.no rfl
  obtain ⟨m,o⟩:=st
  simp only at ho
  subst ho
  have hs:s=Sl.none:=by
   rcases h2 with ⟨_,h2⟩ | ⟨x,h2,_⟩
   ·exact h2
   ·cases h2
  subst hs
  have hdl:=h.dl
  have hfl:=(List.getElem?_eq_some_iff.1 h1).1
  have hnl:=(List.getElem?_eq_some_iff.1 h.num).1
  cases m with
  | zero=>
   have hn:=h.num
   simp only at hn
   have l0:=box_int hn
   have hcl:=Clone_own (show 1 ≤ k by omega) hr htn (by omega)
   have g1:H <+: H ++ [some (Blk.mk false (g.map (.int .i64)))]:=(List.prefix_append _ _)
   have hnew:=own_new 1 H (g.map (.int .i64)) g.length (by simp)
   obtain ⟨H4,a1,a2,a3,a4⟩:=sto1' (pf_get g1 h1) (.sl 1 (Sl.mk false H.length 0 g.length))
   have hlen:H4.length=H.length + 1:=by rw [a4]; simp
   refine ⟨H4,c,?_,⟨h.hc,a3 _ _ h.nf (pf_get g1 hn),⟨_,a2,.inr ⟨g,rfl,a3.own (by simp only; omega) (own_base hnew hB),by simp only; omega⟩⟩,h.nf,h.nd,h.fd,by omega,by simp [stepN],fun hh=>by simp [stepN] at hh⟩,⟨fun e x e1 e2 hx=>a3 e x e1 (pf_get g1 hx),by omega⟩,.inl rfl⟩
   show callF PP orc (k + 1) impl_SquareNumber_1.id [.sl 1 t,.ptr nb 0,.ptr fb 0] H=some (.bool false,H4)
   rw [impl_SquareNumber_1.call]
   simp only [impl_SquareNumber_1.f,l0,Zo,Int.natCast_zero,bt rfl,Zt,hcl,AV.toS,if_true,a1]
  | succ m=>
   have hn:=h.num
   have hle:=h.le
   simp only at hn hle
   have l0:=box_int hn
   obtain ⟨H4,a1,a2,a3,a4⟩:=sto1' hn (.int .i64 (m:Int))
   have w:IntKind.i64.wrap (((m + 1:Nat):Int) - 1)=(m:Int):=by rw [wr (by omega) (by omega)]; omega
   refine ⟨H4,c,?_,⟨h.hc,a2,⟨Sl.none,a3 _ _ (Ne.symm h.nf) h1,.inl ⟨rfl,rfl⟩⟩,h.nf,h.nd,h.fd,by omega,by simp only [stepN]; omega,fun _=>rfl⟩,⟨fun e x e1 e2 hx=>a3 e x (fun e3=>e2 (e3.trans h.hc.symm)) hx,by omega⟩,.inl rfl⟩
   show callF PP orc (k + 1) impl_SquareNumber_1.id [.sl 1 t,.ptr nb 0,.ptr fb 0] H=some (.bool true,H4)
   rw [impl_SquareNumber_1.call]
   simp only [impl_SquareNumber_1.f,l0,Zo,bf (show ((m + 1:Nat):Int) ≠ 0 by omega),Zf,w,a1]
theorem implSquareNumber_ok {k:Nat} (hk:2000500 ≤ k) {H:Hp} {n m:Int} (hm:m ≤ 1000000) :
  ∃ t H',callF PP orc k impl_SquareNumber.id [.int .i64 n,.int .i64 m] H=some (.sl 1 t,H')∧H <+: H'∧Reads .i64 H' t (squareV n m):=by
 obtain ⟨k,rfl⟩:=Zs k (by omega)
 rw [impl_SquareNumber.call]
 obtain ⟨Ha,hHa⟩:∃ X,H ++ [some (Blk.mk false [.int .i64 m])]=X:=⟨_,rfl⟩
 have la:Ha.length=H.length + 1:=by rw [← hHa]; simp
 have pa:H <+: Ha:=by rw [← hHa]; exact List.prefix_append _ _
 have ba:Ha[H.length]?=some (some ⟨false,[.int .i64 m]⟩):=by rw [← hHa]; simp
 have h1:=sizeOk_ok (show 1 ≤ k by omega) n Ha
 have l0:=box_int ba
 unfold squareV
 by_cases hn:2 ≤ n∧n ≤ 4
 ·rw [decide_eq_true hn] at h1
  by_cases c:0 ≤ m
  ·rw [ip ⟨hn,c⟩]
   obtain ⟨M,rfl⟩:=Int.eq_ofNat_of_zero_le c
   obtain ⟨z1,z2,z3⟩:=zeros_len hn
   have hnn:IntKind.i64.wrap (n * n)=n * n:=wr (by omega) (by omega)
   obtain ⟨Hb,b1,b2,b3,b4⟩:=sto_end (H:=Ha) (x:=.sl 1 Sl.none) (.sl 1 Sl.none)
   obtain ⟨Hc,hHc⟩:∃ X,Hb ++ [some (Blk.mk false ((zeros n).map (.int .i64)))]=X:=⟨_,rfl⟩
   have lc:Hc.length=Hb.length + 1:=by rw [← hHc]; simp
   have pc:Hb <+: Hc:=by rw [← hHc]; exact List.prefix_append _ _
   have pHc:=(pa.trans b2).trans pc
   have hown:Own 1 Hb Hc (Sl.mk false Hb.length 0 (n * n).toNat) ((zeros n).map (.int .i64)):=by rw [← hHc]; exact own_new 1 Hb _ _ (by simp [zeros])
   have hzk:∀ H',Adv2 Ha.length H.length Hc H'→PuzAt H' n (Sl.mk false Hb.length 0 (n * n).toNat) Sl.none (zeros n) []:=fun H' ha=>
    ⟨ha.reads (by simp only; omega) (by simp only; omega) (own_reads hown),⟨rfl,fun i hi=>by simp at hi,fun i hi=>by simp at hi,fun i hi=>by simp at hi,fun i hi=>by simp at hi⟩,hn,by omega,by simp,fun r hr=>by simp at hr⟩
   obtain ⟨H',c',d,w1,w2,w3,w4⟩:=solutions_gen (B:=H) (H:=Hc) pHc hzk rfl (b:=Ha.length) (c:=H.length) (K:=10) (T:=TN H Ha.length H.length) (step:=stepN) (f:=impl_SquareNumber_1.id) (caps:=[.ptr H.length 0,.ptr Ha.length 0]) (by omega) (by omega) (Nat.le_refl _)
    (fun d hd=>tell_num (by omega) (by omega) (by omega)) (M,none) (fun d H1 q1 q2 q3=>⟨rfl,pf_get ((b2.trans pc).trans q3) ba,⟨Sl.none,pf_get (pc.trans q3) b3,.inl ⟨rfl,rfl⟩⟩,by omega,by omega,by omega,q2,by simp only; omega,fun _=>rfl⟩) (show 10 + 2000400 ≤ k by omega)
   obtain ⟨s,f1,f2⟩:=w4.fnd
   have e:allSols n (zeros n) (([]:List R).map R.val)=squares n:=sols_zeros hn
   rw [e,runL_nth] at f2
   have hl:=box_sl f1
   refine ⟨s,H',?_,w2,?_⟩
   ·have hz0:(List.replicate (n * n).toNat [AV.int .i64 0]).flatten=(zeros n).map (.int .i64):=by unfold zeros; exact flat0s _
    simp only [impl_SquareNumber.f,impl_SquareNumber.j0,impl_SquareNumber.j1,hHa,h1,l0,Zo,AV.toB,Zy,Zf,df (show ¬ (M:Int) < 0 by omega),b1,hnn]
    rw [ip (by omega),hz0,hHc,w1]
    simp only [Zo,hl]
   ·rw [Int.toNat_natCast]
    rcases f2 with ⟨g1,g2⟩ | ⟨x,g1,g2,g3⟩
    ·rw [g1,g2]; exact reads_nil rfl
    ·rw [g1]; exact own_reads g2
  ·rw [iN (fun h=>c h.2)]
   exact ⟨Sl.none,Ha,by simp only [impl_SquareNumber.f,impl_SquareNumber.j0,hHa,h1,l0,Zo,AV.toB,Zy,Zf,Zt,dt (show m < 0 by omega)],pa,reads_nil rfl⟩
 ·rw [decide_eq_false hn] at h1
  rw [iN (fun h=>hn h.1)]
  exact ⟨Sl.none,Ha,by simp only [impl_SquareNumber.f,impl_SquareNumber.j0,hHa,h1,Zo,AV.toB,Zx,Zt],pa,reads_nil rfl⟩
def countV (n:Int) (given:List Int) (vs:List V) (m:Int):Int:=if puzzleV n given vs=true∧1 ≤ m∧m ≤ 600 then (((allSols n given vs).take m.toNat).length:Int) else -1
theorem implCount_ok {k:Nat} (hk:2000510 ≤ k) {H:Hp} {n:Int} {gs s:Sl} {given:List Int} {rs:List R} (hz:PuzAt H n gs s given rs) (hnil:gs.nil=false) (m:Int) :
  ∃ H',callF PP orc k impl_CountSolutions.id [.agg [.int .i64 n,.sl 1 gs,.sl 3 s],.int .i64 m] H=some (.int .i64 (countV n given (rs.map R.val) m),H')∧H <+: H':=by
 obtain ⟨k,rfl⟩:=Zs k (by omega)
 rw [impl_CountSolutions.call]
 have h1:=implPuzzleValid_ok (show 2000003 ≤ k by omega) hz.n4 hz.rg hz.gl hz.rr hz.rl hz.rc
 rw [puzzle_map] at h1
 unfold countV
 cases c1:puzzleV n given (rs.map R.val) with
 | false=>
  rw [c1] at h1
  rw [iN (by simp)]
  exact ⟨H,by simp only [impl_CountSolutions.f,impl_CountSolutions.j0,dt,df,bt,bf,nt,nf,Za,Zy,Zx,Zt,Zf,Zn,Zz,Zi,Zo,wr,AV.toB,AV.toI,AV.toS,if_true,h1],(List.prefix_refl _)⟩
 | true=>
  rw [c1] at h1
  by_cases c2:m < 1
  ·rw [iN (by omega)]
   exact ⟨H,by simp (disch:=omega) only [impl_CountSolutions.f,impl_CountSolutions.j0,dt,df,bt,bf,nt,nf,Za,Zy,Zx,Zt,Zf,Zn,Zz,Zi,Zo,wr,AV.toB,AV.toI,AV.toS,if_true,h1],(List.prefix_refl _)⟩
  ·by_cases c3:m > 600
   ·rw [iN (by omega)]
    exact ⟨H,by simp (disch:=omega) only [impl_CountSolutions.f,impl_CountSolutions.j0,dt,df,bt,bf,nt,nf,Za,Zy,Zx,Zt,Zf,Zn,Zz,Zi,Zo,wr,AV.toB,AV.toI,AV.toS,if_true,h1],(List.prefix_refl _)⟩
   ·obtain ⟨q,rfl⟩:∃ q:Nat,m=q:=⟨m.toNat,by omega⟩
    rw [ip ⟨rfl,by omega,by omega⟩]
    obtain ⟨t,H',a1,a2,a3⟩:=firstSolutions_ok (show 2000500 ≤ k by omega) hz hnil (most:=q) (by omega) (by omega)
    have hl:=a3.len
    refine ⟨H',?_,a2⟩
    simp (disch:=omega) only [impl_CountSolutions.f,impl_CountSolutions.j0,impl_CountSolutions.j1,dt,df,bt,bf,nt,nf,Za,Zy,Zx,Zt,Zf,Zn,Zz,Zi,Zo,wr,AV.toB,AV.toI,AV.toS,if_true,h1,a1,hl,Zn]
structure WN (H0 H:Hp) (s:Sl) (qs:List R):Prop where
 sh:(qs=[]∧s=Sl.none) ∨ Own 3 H0 H s (qs.flatMap R.av)
 rd:∀ q ∈ qs,Reads .i64 H q.sl q.cells
 cb:∀ q ∈ qs,q.cells ≠ []→H0.length ≤ q.sl.blk∧q.sl.blk < H.length∧q.sl.blk ≠ s.blk
 cn:∀ q ∈ qs,q.sl.nil=false ∨ q.cells=[]
theorem reads_or {H H':Hp} {s:Sl} {l:List Int} {b:Nat} (h:Reads .i64 H s l) (g:But b H H') (hb:l ≠ []→s.blk ≠ b):Reads .i64 H' s l:=by
 cases l with
 | nil=>exact reads_nil h.len
 | cons x l=>exact g.reads (hb (by simp)) h
theorem WN.pf {H0 H H':Hp} {s:Sl} {qs:List R} (h:WN H0 H s qs) (g:H <+: H'):WN H0 H' s qs:=
 ⟨h.sh.imp id fun ho=>own_pf ho g,fun q hq=>pf_reads g (h.rd q hq),fun q hq hc=>by
  obtain ⟨a,b,c⟩:=h.cb q hq hc
  exact ⟨a,Nat.lt_of_lt_of_le b g.length_le,c⟩,h.cn⟩
theorem WN.reads {H0 H:Hp} {s:Sl} {qs:List R} (h:WN H0 H s qs):ReadsR H s qs:=by
 rcases h.sh with ⟨e1,e2⟩ | ho
 ·subst e1 e2
  exact ⟨rfl,fun i hi=>absurd hi (Nat.not_lt_zero _),fun i hi=>absurd hi (Nat.not_lt_zero _),fun i hi=>absurd hi (Nat.not_lt_zero _),fun i hi=>absurd hi (Nat.not_lt_zero _)⟩
 ·exact own_readsR ho fun i hi=>h.rd _ (List.getElem_mem hi)
theorem WN.wr {H0 H H':Hp} {s:Sl} {qs:List R} {b:Nat} (h:WN H0 H s qs) (g:But b H H') (hl:H'.length=H.length) (hb:b < H0.length):WN H0 H' s qs:=
 ⟨h.sh.imp id fun ho=>g.own (by have:=ho.blk; omega) ho,fun q hq=>reads_or (h.rd q hq) g fun hc=>by have:=(h.cb q hq hc).1; omega,fun q hq hc=>by
  obtain ⟨a,b,c⟩:=h.cb q hq hc
  exact ⟨a,by omega,c⟩,h.cn⟩
def clear (cs:List Int) (g:List Int):List Int:=cs.foldl (fun g c=>g.set c.toNat 0) g
theorem implPuzzleSolved_ok {k:Nat} (hk:2000043 ≤ k) {H:Hp} {n:Int} {gs s xs:Sl} {given g:List Int} {rs:List R} (hz:PuzAt H n gs s given rs) (hx:Reads .i64 H xs g) (hl:g.length ≤ 1000) :
  ∃ H',callF PP orc k impl_PuzzleSolved.id [.agg [.int .i64 n,.sl 1 gs,.sl 3 s],.sl 1 xs] H=some (.bool (puzzleSolvedV n given (rs.map R.val) g),H')∧H <+: H':=by
 obtain ⟨k,rfl⟩:=Zs k (by omega)
 rw [impl_PuzzleSolved.call]
 obtain ⟨H1,a1,a2⟩:=implPuzzleFits_ok (show 2000042 ≤ k by omega) hz hx hl
 have hxl:=hx.len
 unfold puzzleSolvedV
 cases c1:puzzleFitsV n given (rs.map R.val) g with
 | false=>
  rw [c1] at a1
  exact ⟨H1,by simp only [impl_PuzzleSolved.f,dt,df,bt,bf,nt,nf,Za,Zy,Zx,Zt,Zf,Zn,Zz,Zi,Zo,wr,AV.toB,AV.toI,AV.toS,if_true,a1,Bool.false_and],a2⟩
 | true=>
  rw [c1] at a1
  have hg:gridOk g n=true:=by
   unfold puzzleFitsV at c1
   simp only [Bool.and_eq_true] at c1; exact c1.2.1
  have h2:=implGridFilled_ok (show 2000001 ≤ k by omega) (pf_reads a2 hx) (by omega) n
  rw [hg,ip rfl] at h2
  refine ⟨H1,?_,a2⟩
  have e:(((filled g:Nat):Int) == (g.length:Int))=decide (filled g=g.length):=by rw [Bool.eq_iff_iff]; simp; omega
  simp only [impl_PuzzleSolved.f,dt,df,bt,bf,nt,nf,Za,Zy,Zx,Zt,Zf,Zn,Zz,Zi,Zo,wr,AV.toB,AV.toI,AV.toS,if_true,a1,h2,hxl,e,Bool.true_and]
end Go.Proofs.Ytjikkamhljbipaa.Rp
