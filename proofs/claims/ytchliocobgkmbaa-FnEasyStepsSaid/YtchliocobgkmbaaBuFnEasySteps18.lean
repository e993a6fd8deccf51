/- Texts for the row of the law FnEasySteps, part 18: the plain machine, the program's functions on it, what they come to. No conditions. -/
import Derived.Test.YtchliocobgkmbaaBuFnEasySteps16
import Derived.Test.YtchliocobgkmbaaBuFnEasySteps17
import Derived.Test.YtchliocobgkmbaaBuFnEasySteps7
import Derived.Test.YtchliocobgkmbaaBuFnEasySteps8
set_option linter.unusedVariables false
set_option linter.unusedSimpArgs false
namespace Go.Proofs.Ytchliocobgkmbaa.Rp
open Go Go.RowKit Go.Proofs.Ytchliocobgkmbaa.Ab
theorem orFrom_has {vals:List Int} (hv:Vals vals):∀ (j i:Nat) {fl:List Int},Ms fl→i + j=vals.length→vals.length ≤ fl.length→∀ x v:Nat,has ((orFrom vals fl i j).getD x 0) v=true ↔ has (fl.getD x 0) v=true ∨ (i ≤ x∧x < i + j∧vals.getD x 0=(v:Int))
 | 0,i,fl,h,_,_,x,v=>by rw [orFrom]; constructor; exact .inl; rintro (h | h); exact h; omega
 | j + 1,i,fl,h,hi,hl,x,v=>by
  have hM:=M.pw (hv.at i).1 (hv.at i).2
  rw [orFrom,orFrom_has hv j (i + 1) (h.set i (M.or (h.at i) hM)) (by omega) (by simpa using hl)]
  by_cases e:x=i
  ·subst e
   have:(fl.set x (mOr (fl.getD x 0) (pw (vals.getD x 0)))).getD x 0=mOr (fl.getD x 0) (pw (vals.getD x 0)):=by
    rw [List.getD_eq_getElem?_getD,List.getElem?_set_self (by omega)]; rfl
   rw [this,has_or,has_pw (hv.at x).1]
   simp only [Bool.or_eq_true,decide_eq_true_eq]
   constructor
   ·rintro ((h | h) | h)
    ·exact .inl h
    ·exact .inr ⟨by omega,by omega,h.symm⟩
    ·omega
   ·rintro (h | h)
    ·exact .inl (.inl h)
    ·exact .inl (.inr h.2.2.symm)
  ·have:(fl.set i (mOr (fl.getD i 0) (pw (vals.getD i 0)))).getD x 0=fl.getD x 0:=by
    rw [List.getD_eq_getElem?_getD,List.getElem?_set_ne (Ne.symm e),← List.getD_eq_getElem?_getD]
   rw [this]
   constructor
   ·rintro (h | h)
    ·exact .inl h
    ·exact .inr ⟨by omega,by omega,h.2.2⟩
   ·rintro (h | h)
    ·exact .inl h
    ·exact .inr ⟨by omega,by omega,h.2.2⟩
def AllIn:List Int→List Int→Prop
 | [],[]=>True
 | m :: ms,w :: ws=>w ∈ maskVals m∧AllIn ms ws
 | _,_=>False
theorem AllIn.len:∀ {ms ws:List Int},AllIn ms ws→ws.length=ms.length
 | [],[],_=>rfl
 | _ :: _,_ :: _,h=>by simp [AllIn.len h.2]
 | [],_ :: _,h=>h.elim
 | _ :: _,[],h=>h.elim
theorem AllIn.vals:∀ {ms ws:List Int},AllIn ms ws→∀ w ∈ ws,1 ≤ w∧w ≤ 4
 | [],[],_,w,hw=>by cases hw
 | _ :: _,_ :: _,h,w,hw=>by
  rcases List.mem_cons.1 hw with e | e
  ·rw [e]; exact maskVals_mem h.1
  ·exact AllIn.vals h.2 w e
 | [],_ :: _,h,_,_=>h.elim
 | _ :: _,[],h,_,_=>h.elim
theorem ways_has (h:List Int→Bool):∀ (ms vals fl:List Int),Vals vals→vals.length + ms.length ≤ 4→Ms fl→vals.length + ms.length ≤ fl.length→∀ x v:Nat,x < vals.length + ms.length →
  (has ((ways h ms vals fl).getD x 0) v=true ↔ has (fl.getD x 0) v=true ∨ ∃ ws,AllIn ms ws∧h (vals ++ ws)=true∧(vals ++ ws).getD x 0=(v:Int))
 | [],vals,fl,hv,hl4,hf,hl,x,v,hx=>by
  simp only [Zm,Nat.add_zero] at hx hl
  have key:(∃ ws,AllIn [] ws∧h (vals ++ ws)=true∧(vals ++ ws).getD x 0=(v:Int)) ↔ (h vals=true∧vals.getD x 0=(v:Int)):=by
   constructor
   ·rintro ⟨ws,h1,h2,h3⟩
    cases ws with
    | nil=>rw [List.append_nil] at h2 h3; exact ⟨h2,h3⟩
    | cons w ws=>exact h1.elim
   ·rintro ⟨h1,h2⟩
    exact ⟨[],trivial,by rw [List.append_nil]; exact h1,by rw [List.append_nil]; exact h2⟩
  rw [key,ways]
  split
  ·rename_i hh
   unfold orAll
   rw [orFrom_has hv vals.length 0 hf (by omega) hl]
   constructor
   ·rintro (a | a)
    ·exact .inl a
    ·exact .inr ⟨hh,a.2.2⟩
   ·rintro (a | a)
    ·exact .inl a
    ·exact .inr ⟨by omega,by omega,a.2⟩
  ·rename_i hh
   constructor
   ·exact .inl
   ·rintro (a | a)
    ·exact a
    ·exact absurd a.1 hh
 | m :: ms,vals,fl,hv,hl4,hf,hl,x,v,hx=>by
  simp only [Zl] at hl4 hl hx
  have key:∀ (L:List Int) (fl:List Int),(∀ w ∈ L,1 ≤ w∧w ≤ 4)→Ms fl→vals.length + ms.length + 1 ≤ fl.length →
    (has ((L.foldl (fun f v=>ways h ms (vals ++ [v]) f) fl).getD x 0) v=true ↔ has (fl.getD x 0) v=true ∨ ∃ w ∈ L,∃ ws,AllIn ms ws∧h (vals ++ w :: ws)=true∧(vals ++ w :: ws).getD x 0=(v:Int)):=by
   intro L
   induction L with
   | nil=>intro fl _ _ _; simp
   | cons w L ih=>
    intro fl hL hf hl
    have hw:=hL w (by simp)
    have hv1:=hv.app (show vals.length < 4 by omega) (v:=w) ⟨by omega,hw.2⟩
    have w1:=ways_ok h ms (vals ++ [w]) fl hv1 (by simp; omega) hf
    have w2:=ways_has h ms (vals ++ [w]) fl hv1 (by simp; omega) hf (by simp; omega) x v (by simp; omega)
    rw [List.foldl_cons,ih _ (fun y hy=>hL y (by simp [hy])) w1.1 (by rw [w1.2]; exact hl),w2]
    simp only [List.append_assoc,List.singleton_append]
    constructor
    ·rintro ((a | ⟨ws,a⟩) | ⟨y,hy,ws,a⟩)
     ·exact .inl a
     ·exact .inr ⟨w,by simp,ws,a⟩
     ·exact .inr ⟨y,by simp [hy],ws,a⟩
    ·rintro (a | ⟨y,hy,ws,a⟩)
     ·exact .inl (.inl a)
     ·rcases List.mem_cons.1 hy with e | e
      ·subst e; exact .inl (.inr ⟨ws,a⟩)
      ·exact .inr ⟨y,e,ws,a⟩
  rw [ways,key (maskVals m) fl (fun w hw=>maskVals_mem hw) hf (by omega)]
  constructor
  ·rintro (a | ⟨w,hw,ws,a1,a2,a3⟩)
   ·exact .inl a
   ·exact .inr ⟨w :: ws,⟨hw,a1⟩,a2,a3⟩
  ·rintro (a | ⟨ws,a1,a2,a3⟩)
   ·exact .inl a
   ·cases ws with
    | nil=>exact a1.elim
    | cons w ws=>exact .inr ⟨w,a1.1,ws,a1.2,a2,a3⟩
theorem has_zero (v:Nat):has 0 v=false:=by unfold has; simp
theorem ruleMasks_has {kind value:Int} {own:List Int} (hl:own.length ≤ 4) (x v:Nat) (hx:x < own.length) :
  has ((ruleMasksV kind value own).getD x 0) v=true ↔ ∃ ws,AllIn own ws∧holdsV kind value ws=true∧ws.getD x 0=(v:Int):=by
 unfold ruleMasksV
 rw [ways_has _ own [] _ ⟨by simp,fun v hv=>by cases hv⟩ (by simpa using hl) (Ms.zeros _) (by simp) x v (by simpa using hx)]
 have e:(List.replicate own.length (0:Int)).getD x 0=0:=by simp [List.getD_eq_getElem?_getD,hx]
 rw [e,has_zero]
 simp
theorem ruleMasks_ok {kind value:Int} {own:List Int} (hl:own.length ≤ 4):Ms (ruleMasksV kind value own)∧(ruleMasksV kind value own).length=own.length:=by
 have:=ways_ok (holdsV kind value) own [] (List.replicate own.length 0) ⟨by simp,fun v hv=>by cases hv⟩ (by simpa using hl) (Ms.zeros _)
 exact ⟨this.1,this.2.trans (by simp)⟩
theorem ne_zero_has {m:Int} (hm:M m):m ≠ 0 ↔ ∃ v:Nat,has m v=true:=by
 constructor
 ·intro h
  apply Classical.byContradiction
  intro hc
  apply h
  refine m_ext hm ⟨by decide,by decide⟩ fun v _=>?_
  rw [has_zero]
  cases e:has m v with
  | false=>rfl
  | true=>exact absurd ⟨v,e⟩ hc
 ·rintro ⟨v,hv⟩ e
  rw [e,has_zero] at hv; cases hv
theorem head_getD (l:List Int):l.headD 0=l.getD 0 0:=by cases l <;> rfl
theorem canHold_iff {n:Int} {g:List Int} {r:V} (h1:1 ≤ r.2.1.length) (h4:r.2.1.length ≤ 4):canHoldV n g r=true ↔ ∃ ws,AllIn (ownOf (openOf n g) r.2.1) ws∧holdsV r.1 r.2.2 ws=true:=by
 unfold canHoldV
 have hl:(ownOf (openOf n g) r.2.1).length=r.2.1.length:=by simp [ownOf]
 have ho:=ruleMasks_ok (kind:=r.1) (value:=r.2.2) (own:=ownOf (openOf n g) r.2.1) (by omega)
 rw [bne_iff_ne,head_getD,ne_zero_has (ho.1.at 0)]
 constructor
 ·rintro ⟨v,hv⟩
  obtain ⟨ws,a,b,_⟩:=(ruleMasks_has (by omega) 0 v (by omega)).1 hv
  exact ⟨ws,a,b⟩
 ·rintro ⟨ws,a,b⟩
  have hwl:=a.len
  have hw:=a.vals _ (mem_getD (show 0 < ws.length by omega))
  refine ⟨(ws.getD 0 0).toNat,(ruleMasks_has (by omega) 0 _ (by omega)).2 ⟨ws,a,b,by omega⟩⟩
theorem tab_mv:∀ m:Nat,m < 16→∀ w:Nat,w < 6→((maskVals ((2 * m:Nat):Int)).contains (w:Int)=(decide (1 ≤ w) && (2 * m).testBit w)):=by decide +kernel
theorem mem_maskVals {m w:Int} (hm:0 ≤ m∧m ≤ 30) (he:m.tmod 2=0):w ∈ maskVals m ↔ (1 ≤ w∧w ≤ 4)∧has m w.toNat=true:=by
 obtain ⟨a,ha⟩:∃ a:Nat,m=((2 * a:Nat):Int):=⟨(m / 2).toNat,by rw [Int.tmod_eq_emod_of_nonneg hm.1] at he; omega⟩
 have ha16:a < 16:=by omega
 by_cases hw:1 ≤ w∧w ≤ 4
 ·obtain ⟨b,rfl⟩:=Int.eq_ofNat_of_zero_le (show 0 ≤ w by omega)
  have:=tab_mv a ha16 b (by omega)
  rw [← ha] at this
  rw [← List.contains_iff_mem,this]
  have h1:1 ≤ b:=by omega
  have e:has m ((b:Nat):Int).toNat=(2 * a).testBit b:=by unfold has; rw [ha,Int.toNat_natCast,Int.toNat_natCast]
  rw [e]
  simp [h1,hw]
 ·constructor
  ·intro h; exact absurd (maskVals_mem h) hw
  ·intro h; exact absurd h.1 hw
def Le (g' g:List Int):Prop:=g'.length=g.length∧∀ i:Nat,g'.getD i 0=0 ∨ g'.getD i 0=g.getD i 0
theorem Le.refl (g:List Int):Le g g:=⟨rfl,fun _=>.inr rfl⟩
theorem Le.trans {a b c:List Int} (h:Le a b) (h':Le b c):Le a c:=⟨h.1.trans h'.1,fun i=>by
 rcases h.2 i with e | e
 ·exact .inl e
 ·rw [e]; exact h'.2 i⟩
theorem Le.gv {g' g:List Int} (h:Le g' g) (c:Int):gv g' c=0 ∨ gv g' c=gv g c:=h.2 c.toNat
theorem getD_set {l:List Int} {i j:Nat} {v:Int}:(l.set i v).getD j 0=if i=j∧i < l.length then v else l.getD j 0:=by
 rw [List.getD_eq_getElem?_getD,List.getElem?_set]
 by_cases e:i=j
 ·subst e
  by_cases h:i < l.length
  ·simp [h]
  ·simp [h,List.getD_eq_getElem?_getD,List.getElem?_eq_none (Nat.le_of_not_lt h)]
 ·simp [e]
theorem clashL_anti {g' g:List Int} (h:Le g' g):∀ (cells s' s:List Int),(∀ v,0 < v→v ∈ s'→v ∈ s)→clashL g' cells s'=true→clashL g cells s=true
 | [],s',s,_,hc=>by cases hc
 | c :: cs,s',s,hs,hc=>by
  rw [clashL] at hc ⊢
  rw [Bool.or_eq_true,Bool.and_eq_true,decide_eq_true_eq,List.contains_iff_mem] at hc ⊢
  rcases h.gv c with e | e
  ·rcases hc with ⟨a,_⟩ | a
   ·omega
   ·refine .inr (clashL_anti h cs _ _ (fun v hv hm=>?_) a)
    rw [e] at hm
    rcases List.mem_cons.1 hm with e' | e'
    ·omega
    ·exact List.mem_cons_of_mem _ (hs v hv e')
  ·rw [e] at hc
   rcases hc with ⟨a,b⟩ | a
   ·exact .inl ⟨a,hs _ a b⟩
   ·refine .inr (clashL_anti h cs _ _ (fun v hv hm=>?_) a)
    rcases List.mem_cons.1 hm with e' | e'
    ·rw [e']; exact List.mem_cons_self
    ·exact List.mem_cons_of_mem _ (hs v hv e')
theorem clashFrom_anti {g' g:List Int} (h:Le g' g) (n:Int):∀ (j line:Nat),clashFrom g' n line j=true→clashFrom g n line j=true
 | 0,_,hc=>by cases hc
 | j + 1,line,hc=>by
  rw [clashFrom,Bool.or_eq_true] at hc ⊢
  rcases hc with a | a
  ·exact .inl (clashL_anti h _ _ _ (fun v _ hm=>hm) a)
  ·exact .inr (clashFrom_anti h n j (line + 1) a)
theorem clash_anti {g' g:List Int} (h:Le g' g) (n:Int) (hc:clash g n=false):clash g' n=false:=by
 cases e:clash g' n with
 | false=>rfl
 | true=>
  have:clash g n=true:=clashFrom_anti h n _ _ e
  rw [this] at hc; cases hc
theorem compatFrom_iff (a g:List Int):∀ (j i:Nat),compatFrom a g i j=true ↔ ∀ x,i ≤ x→x < i + j→a.getD x 0 > 0→g.getD x 0 > 0→g.getD x 0=a.getD x 0
 | 0,i=>by simp [compatFrom]; intro x h1 h2; omega
 | j + 1,i=>by
  rw [compatFrom,Bool.and_eq_true,compatFrom_iff a g j (i + 1)]
  simp only [Bool.not_eq_true',Bool.and_eq_false_iff,decide_eq_false_iff_not,bne_eq_false_iff_eq]
  constructor
  ·rintro ⟨h1,h2⟩ x hx1 hx2 ha hg
   by_cases e:x=i
   ·subst e
    rcases h1 with h1 | h1 | h1
    ·omega
    ·omega
    ·exact h1
   ·exact h2 x (by omega) (by omega) ha hg
  ·intro h
   refine ⟨?_,fun x h1 h2=>h x (by omega) (by omega)⟩
   by_cases h1:a.getD i 0 > 0
   ·by_cases h2:g.getD i 0 > 0
    ·exact .inr (.inr (h i (by omega) (by omega) h1 h2))
    ·exact .inr (.inl h2)
   ·exact .inl h1
theorem compatB_iff (a g:List Int):compatB a g=true ↔ ∀ x,x < g.length→a.getD x 0 > 0→g.getD x 0 > 0→g.getD x 0=a.getD x 0:=by
 unfold compatB
 rw [compatFrom_iff]
 constructor
 ·intro h x hx; exact h x (by omega) (by omega)
 ·intro h x _ hx; exact h x (by omega)
theorem AllIn.mono:∀ {ms ms' ws:List Int},ms.length=ms'.length→(∀ i,i < ms.length→∀ w,w ∈ maskVals (ms.getD i 0)→w ∈ maskVals (ms'.getD i 0))→AllIn ms ws→AllIn ms' ws
 | [],[],[],_,_,_=>trivial
 | m :: ms,m' :: ms',w :: ws,hl,hs,h=>⟨hs 0 (by simp) w h.1,AllIn.mono (by simpa using hl) (fun i hi w hw=>hs (i + 1) (by simpa using hi) w hw) h.2⟩
 | [],_ :: _,_,hl,_,_=>by simp at hl
 | _ :: _,[],_,hl,_,_=>by simp at hl
 | [],[],_ :: _,_,_,h=>h.elim
 | _ :: _,_ :: _,[],_,_,h=>h.elim
theorem tab_open:∀ n:Int,2 ≤ n∧n ≤ 4→(∀ v:Int,1 ≤ v∧v ≤ n→maskVals (pw v)=[v])∧maskVals (topMask n)=upto n.toNat 1:=by
 intro n hn
 have:n=2 ∨ n=3 ∨ n=4:=by omega
 rcases this with rfl | rfl | rfl
 all_goals
  refine ⟨fun v hv=>?_,by decide⟩
  have:v=1 ∨ v=2 ∨ v=3 ∨ v=4:=by omega
  rcases this with rfl | rfl | rfl | rfl <;> first | omega | decide
theorem mem_upto:∀ (j:Nat) (v w:Int),w ∈ upto j v ↔ v ≤ w∧w < v + j
 | 0,v,w=>by
  constructor
  ·intro h; cases h
  ·intro h; omega
 | j + 1,v,w=>by rw [upto,List.mem_cons,mem_upto j]; push_cast; omega
theorem openOf_at {n:Int} {g:List Int} {i:Nat} (hi:i < g.length):(openOf n g).getD i 0=if g.getD i 0 > 0 then pw (g.getD i 0) else topMask n:=by
 unfold openOf
 rw [List.getD_eq_getElem?_getD,List.getElem?_map,List.getElem?_eq_getElem hi,List.getD_eq_getElem?_getD (l:=g),List.getElem?_eq_getElem hi]; rfl
theorem open_vals {n:Int} {g:List Int} (hg:gridOk g n=true) {i:Nat} (hi:i < g.length) (w:Int):w ∈ maskVals ((openOf n g).getD i 0) ↔ (1 ≤ w∧w ≤ n)∧(g.getD i 0 > 0→w=g.getD i 0):=by
 obtain ⟨hn,h2,h3⟩:=(gridOk_iff g n).1 hg
 have hv:=h3 _ (mem_getD hi)
 obtain ⟨t1,t2⟩:=tab_open n hn
 rw [openOf_at hi]
 split
 ·rename_i c
  rw [t1 _ ⟨by omega,hv.2⟩]
  simp only [List.mem_singleton]
  constructor
  ·intro e; subst e; exact ⟨⟨by omega,hv.2⟩,fun _=>rfl⟩
  ·intro h; exact h.2 c
 ·rename_i c
  rw [t2,mem_upto]
  constructor
  ·intro h; exact ⟨by omega,fun h=>absurd h c⟩
  ·intro h; omega
theorem canHold_anti {n:Int} {g' g:List Int} (h:Le g' g) (hg:gridOk g n=true) (hg':gridOk g' n=true) {r:V} (hr:ruleOkV n r=true) (hc:canHoldV n g r=true):canHoldV n g' r=true:=by
 obtain ⟨c1,c2,c3,c4⟩:=ruleOk_cells hr
 have hl:=((gridOk_iff g n).1 hg).2.1
 have hl':=h.1
 rw [canHold_iff c3 c2] at hc ⊢
 obtain ⟨ws,a,b⟩:=hc
 refine ⟨ws,a.mono (by simp [ownOf]) (fun i hi w hw=>?_),b⟩
 have hi':i < r.2.1.length:=by simpa [ownOf] using hi
 have hcc:=c1 _ (mem_getD hi')
 have e:∀ g:List Int,(ownOf (openOf n g) r.2.1).getD i 0=(openOf n g).getD (r.2.1.getD i 0).toNat 0:=fun g=>by
  unfold ownOf
  rw [List.getD_eq_getElem?_getD,List.getElem?_map,List.getElem?_eq_getElem hi',List.getD_eq_getElem?_getD (l:=r.2.1),List.getElem?_eq_getElem hi']; rfl
 rw [e] at hw ⊢
 have hlt:(r.2.1.getD i 0).toNat < g.length:=by omega
 rw [open_vals hg hlt] at hw
 rw [open_vals hg' (by omega)]
 refine ⟨hw.1,fun h1=>?_⟩
 rcases h.2 (r.2.1.getD i 0).toNat with e1 | e1
 ·omega
 ·rw [e1] at h1 ⊢; exact hw.2 h1
theorem grid_le {n:Int} {g' g:List Int} (h:Le g' g) (hg:gridOk g n=true):gridOk g' n=true:=by
 obtain ⟨hn,h2,h3⟩:=(gridOk_iff g n).1 hg
 refine (gridOk_iff g' n).2 ⟨hn,by rw [h.1]; exact h2,fun v hv=>?_⟩
 obtain ⟨i,hi,rfl⟩:=List.getElem_of_mem hv
 have e:g'.getD i 0=g'[i]:=by simp [List.getD_eq_getElem?_getD,hi]
 have hi2:i < g.length:=by rw [← h.1]; exact hi
 have:=h3 _ (mem_getD hi2)
 rcases h.2 i with e1 | e1
 ·rw [← e,e1]; omega
 ·rw [← e,e1]; exact this
theorem fits_anti {n:Int} {given:List Int} {vs:List V} {g' g:List Int} (h:Le g' g) (hg:gridOk g n=true) (hv:vs.all (ruleOkV n)=true) (hc:fitsV n given vs g=true):fitsV n given vs g'=true:=by
 unfold fitsV at hc ⊢
 simp only [Bool.and_eq_true,List.all_eq_true,Bool.not_eq_true'] at hc hv ⊢
 refine ⟨?_,fun r hr=>canHold_anti h hg (grid_le h hg) (hv r hr) (hc.2.1 r hr),clash_anti h n hc.2.2⟩
 rw [compatB_iff] at hc ⊢
 intro x hx ha hg1
 rcases h.2 x with e | e
 ·omega
 ·rw [e] at hg1 ⊢; exact hc.1 x (by rw [← h.1]; exact hx) ha hg1
theorem zt2:(2:Int).toNat=2:=rfl
theorem zt3:(3:Int).toNat=3:=rfl
theorem zt4:(4:Int).toNat=4:=rfl
theorem clashL_iff (g:List Int):∀ (cells seen:List Int),clashL g cells seen=true ↔ ∃ i,i < cells.length∧0 < gv g (cells.getD i 0)∧(gv g (cells.getD i 0) ∈ seen ∨ ∃ j,j < i∧gv g (cells.getD j 0)=gv g (cells.getD i 0))
 | [],seen=>by simp [clashL]
 | c :: cs,seen=>by
  rw [clashL,Bool.or_eq_true,Bool.and_eq_true,decide_eq_true_eq,List.contains_iff_mem,clashL_iff g cs]
  constructor
  ·rintro (⟨h1,h2⟩ | ⟨i,hi,h1,h2⟩)
   ·exact ⟨0,by simp,h1,.inl h2⟩
   ·refine ⟨i + 1,by simpa using hi,h1,?_⟩
    rcases h2 with h2 | ⟨j,hj,h2⟩
    ·rcases List.mem_cons.1 h2 with e | e
     ·exact .inr ⟨0,by omega,e.symm⟩
     ·exact .inl e
    ·exact .inr ⟨j + 1,by omega,h2⟩
  ·rintro ⟨i,hi,h1,h2⟩
   cases i with
   | zero=>
    rcases h2 with h2 | ⟨j,hj,_⟩
    ·exact .inl ⟨h1,h2⟩
    ·omega
   | succ i=>
    refine .inr ⟨i,by simpa using hi,h1,?_⟩
    rcases h2 with h2 | ⟨j,hj,h2⟩
    ·exact .inl (List.mem_cons_of_mem _ h2)
    ·cases j with
     | zero=>exact .inl (by have e:gv g c=gv g (cs.getD i 0):=h2; rw [← e]; exact List.mem_cons_self)
     | succ j=>exact .inr ⟨j,by omega,h2⟩
theorem clashFrom_iff (g:List Int) (n:Int):∀ (j line:Nat),clashFrom g n line j=true ↔ ∃ ln:Nat,line ≤ ln∧ln < line + j∧clashL g (lineCells n ln) []=true
 | 0,line=>by simp [clashFrom]; omega
 | j + 1,line=>by
  rw [clashFrom,Bool.or_eq_true,clashFrom_iff g n j]
  constructor
  ·rintro (h | ⟨ln,h1,h2,h3⟩)
   ·exact ⟨line,Nat.le_refl _,by omega,h⟩
   ·exact ⟨ln,by omega,by omega,h3⟩
  ·rintro ⟨ln,h1,h2,h3⟩
   by_cases e:ln=line
   ·subst e; exact .inl h3
   ·exact .inr ⟨ln,by omega,by omega,h3⟩
def sameLine (N x y:Nat):Prop:=x / N=y / N ∨ x % N=y % N
theorem line_at {n:Int} (hn:2 ≤ n∧n ≤ 4) {ln i:Nat} (hl:(ln:Int) < 2 * n) (hi:(i:Int) < n):(lineCells n ln).getD i 0=lineCell n ln i∧(lineCells n ln).length=n.toNat:=by
 unfold lineCells
 rw [if_pos ⟨hn,by omega,hl⟩]
 refine ⟨?_,by simp⟩
 rw [List.getD_eq_getElem?_getD,List.getElem?_map,List.getElem?_range (by omega)]; rfl
theorem clash_iff {n:Int} (hn:2 ≤ n∧n ≤ 4) (g:List Int):clash g n=true ↔ ∃ x y:Nat,x < n.toNat * n.toNat∧y < n.toNat * n.toNat∧x ≠ y∧sameLine n.toNat x y∧0 < g.getD x 0∧g.getD y 0=g.getD x 0:=by
 have e0:clash g n=clashFrom g n 0 (2 * n).toNat:=rfl
 rw [e0,clashFrom_iff]
 have gvd:∀ c:Int,gv g c=g.getD c.toNat 0:=fun _=>rfl
 constructor
 ·rintro ⟨ln,_,h2,h3⟩
  have hl:(ln:Int) < 2 * n:=by omega
  rw [clashL_iff] at h3
  obtain ⟨i,hi,h4,h5⟩:=h3
  rw [(line_at hn hl (i:=0) (by omega)).2] at hi
  have hi':(i:Int) < n:=by omega
  rcases h5 with h5 | ⟨j,hj,h5⟩
  ·cases h5
  rw [(line_at hn hl hi').1,gvd] at h4 h5
  rw [(line_at hn hl (i:=j) (by omega)).1,gvd] at h5
  refine ⟨(lineCell n ln i).toNat,(lineCell n ln j).toNat,?_,?_,?_,?_,h4,h5⟩
  all_goals
   have:n=2 ∨ n=3 ∨ n=4:=by omega
   unfold lineCell
   try unfold sameLine
   rcases this with rfl | rfl | rfl
  all_goals
   split
  all_goals
   try simp only [zt2,zt3,zt4] at *
   omega
 ·rintro ⟨x,y,hx,hy,hne,hs,h1,h2⟩
  have key:∀ x y:Nat,x < n.toNat * n.toNat→y < n.toNat * n.toNat→∀ ln i j:Nat,(ln:Int) < 2 * n→(i:Int) < n→j < i→(lineCell n ln i).toNat=x→(lineCell n ln j).toNat=y→0 < g.getD x 0→g.getD y 0=g.getD x 0→∃ ln:Nat,0 ≤ ln∧ln < 0 + (2 * n).toNat∧clashL g (lineCells n ln) []=true:=by
   intro x y hx hy ln i j hl hi hj e1 e2 h1 h2
   refine ⟨ln,by omega,by omega,(clashL_iff _ _ _).2 ⟨i,by rw [(line_at hn hl hi).2]; omega,?_,.inr ⟨j,hj,?_⟩⟩⟩
   ·rw [(line_at hn hl hi).1,gvd,e1]; exact h1
   ·rw [(line_at hn hl hi).1,(line_at hn hl (i:=j) (by omega)).1,gvd,gvd,e1,e2]; exact h2
  have hrow:∀ x y:Nat,x < n.toNat * n.toNat→y < n.toNat * n.toNat→x / n.toNat=y / n.toNat→y % n.toNat < x % n.toNat→0 < g.getD x 0→g.getD y 0=g.getD x 0→∃ ln:Nat,0 ≤ ln∧ln < 0 + (2 * n).toNat∧clashL g (lineCells n ln) []=true:=by
   intro x y hx hy h3 h4 h1 h2
   refine key x y hx hy (x / n.toNat) (x % n.toNat) (y % n.toNat) ?_ ?_ h4 ?_ ?_ h1 h2
   all_goals
    have:n=2 ∨ n=3 ∨ n=4:=by omega
    try unfold lineCell
    rcases this with rfl | rfl | rfl
   all_goals
    try split
   all_goals
    try simp only [zt2,zt3,zt4] at *
    omega
  have hcol:∀ x y:Nat,x < n.toNat * n.toNat→y < n.toNat * n.toNat→x % n.toNat=y % n.toNat→y / n.toNat < x / n.toNat→0 < g.getD x 0→g.getD y 0=g.getD x 0→∃ ln:Nat,0 ≤ ln∧ln < 0 + (2 * n).toNat∧clashL g (lineCells n ln) []=true:=by
   intro x y hx hy h3 h4 h1 h2
   refine key x y hx hy (n.toNat + x % n.toNat) (x / n.toNat) (y / n.toNat) ?_ ?_ h4 ?_ ?_ h1 h2
   all_goals
    have:n=2 ∨ n=3 ∨ n=4:=by omega
    try unfold lineCell
    rcases this with rfl | rfl | rfl
   all_goals
    try split
   all_goals
    try simp only [zt2,zt3,zt4] at *
    omega
  have h2':g.getD x 0=g.getD y 0:=h2.symm
  have h1':0 < g.getD y 0:=by omega
  have hxy:x / n.toNat=y / n.toNat→x % n.toNat ≠ y % n.toNat:=fun h3 h4=>hne (by rw [← Nat.div_add_mod x n.toNat,← Nat.div_add_mod y n.toNat,h3,h4])
  rcases hs with hs | hs
  ·rcases Nat.lt_or_gt_of_ne (hxy hs) with h | h
   ·exact hrow y x hy hx hs.symm h h1' h2'
   ·exact hrow x y hx hy hs h h1 h2
  ·have:x / n.toNat ≠ y / n.toNat:=fun h=>hxy h hs
   rcases Nat.lt_or_gt_of_ne this with h | h
   ·exact hcol y x hy hx hs.symm h h1' h2'
   ·exact hcol x y hx hy hs h h1 h2
/-! ### One cell more -/
def cellFrom (N:Nat) (g:List Int) (at':Nat):Nat→Nat→Bool
 | _,0=>false
 | k,j + 1=>(decide (at' / N * N + k ≠ at') && decide (g.getD (at' / N * N + k) 0=g.getD at' 0)) || ((decide (k * N + at' % N ≠ at') && decide (g.getD (k * N + at' % N) 0=g.getD at' 0)) || cellFrom N g at' (k + 1) j)
theorem cellFrom_iff (N:Nat) (g:List Int) (at':Nat):∀ (j k:Nat),cellFrom N g at' k j=true ↔ ∃ u,k ≤ u∧u < k + j∧((at' / N * N + u ≠ at'∧g.getD (at' / N * N + u) 0=g.getD at' 0) ∨ (u * N + at' % N ≠ at'∧g.getD (u * N + at' % N) 0=g.getD at' 0))
 | 0,k=>by simp [cellFrom]; omega
 | j + 1,k=>by
  rw [cellFrom,Bool.or_eq_true,Bool.or_eq_true,Bool.and_eq_true,Bool.and_eq_true,cellFrom_iff N g at' j]
  simp only [decide_eq_true_eq]
  constructor
  ·rintro (h | h | ⟨u,h1,h2,h3⟩)
   ·exact ⟨k,Nat.le_refl _,by omega,.inl h⟩
   ·exact ⟨k,Nat.le_refl _,by omega,.inr h⟩
   ·exact ⟨u,by omega,by omega,h3⟩
  ·rintro ⟨u,h1,h2,h3⟩
   by_cases e:u=k
   ·subst e
    rcases h3 with h3 | h3
    ·exact .inl h3
    ·exact .inr (.inl h3)
   ·exact .inr (.inr ⟨u,by omega,by omega,h3⟩)
def cellFitsV (n:Int) (vs:List V) (g:List Int) (at':Nat):Bool:=!cellFrom n.toNat g at' 0 n.toNat && vs.all fun r=>!r.2.1.contains (at':Int) || canHoldV n g r
theorem cell_clash {n:Int} (hn:2 ≤ n∧n ≤ 4) {g:List Int} (hl:g.length=n.toNat * n.toNat) {at':Nat} (ha:at' < g.length) {v:Int} (hv:1 ≤ v) (hc:clash g n=false) (h0:g.getD at' 0=0):clash (g.set at' v) n=cellFrom n.toNat (g.set at' v) at' 0 n.toNat:=by
 have hat:(g.set at' v).getD at' 0=v:=by rw [getD_set,if_pos ⟨rfl,ha⟩]
 have hne:∀ x,x ≠ at'→(g.set at' v).getD x 0=g.getD x 0:=fun x hx=>by rw [getD_set,if_neg (by omega)]
 have hno:¬ ∃ x y:Nat,x < n.toNat * n.toNat∧y < n.toNat * n.toNat∧x ≠ y∧sameLine n.toNat x y∧0 < g.getD x 0∧g.getD y 0=g.getD x 0:=by
  intro h; rw [← clash_iff hn] at h; rw [h] at hc; cases hc
 rw [Bool.eq_iff_iff,clash_iff hn,cellFrom_iff,hat]
 have one:∀ x,x < n.toNat * n.toNat→x ≠ at'→sameLine n.toNat at' x→(g.set at' v).getD x 0=v→∃ u,0 ≤ u∧u < 0 + n.toNat∧((at' / n.toNat * n.toNat + u ≠ at'∧(g.set at' v).getD (at' / n.toNat * n.toNat + u) 0=v) ∨ (u * n.toNat + at' % n.toNat ≠ at'∧(g.set at' v).getD (u * n.toNat + at' % n.toNat) 0=v)):=by
  intro x hx hxa hs hgx
  rcases hs with hs | hs
  ·refine ⟨x % n.toNat,Nat.zero_le _,by have:=Nat.mod_lt x (show n.toNat > 0 by omega); omega,.inl ?_⟩
   have e:at' / n.toNat * n.toNat + x % n.toNat=x:=by rw [hs,Nat.mul_comm]; exact Nat.div_add_mod x n.toNat
   rw [e]; exact ⟨hxa,hgx⟩
  ·refine ⟨x / n.toNat,Nat.zero_le _,by have:=Nat.div_lt_of_lt_mul hx; omega,.inr ?_⟩
   have e:x / n.toNat * n.toNat + at' % n.toNat=x:=by rw [hs,Nat.mul_comm]; exact Nat.div_add_mod x n.toNat
   rw [e]; exact ⟨hxa,hgx⟩
 constructor
 ·rintro ⟨x,y,hx,hy,hxy,hs,h1,h2⟩
  by_cases ex:x=at'
  ·subst ex
   rw [hat] at h2
   exact one y hy (Ne.symm hxy) hs h2
  ·by_cases ey:y=at'
   ·subst ey
    rw [hat] at h2
    exact one x hx ex (by rcases hs with h | h; exact .inl h.symm; exact .inr h.symm) h2.symm
   ·rw [hne x ex] at h1 h2
    rw [hne y ey] at h2
    exact absurd ⟨x,y,hx,hy,hxy,hs,h1,h2⟩ hno
 ·rintro ⟨u,_,hu,h⟩
  have hdm:=Nat.div_add_mod at' n.toNat
  have hmul:n.toNat * (at' / n.toNat)=at' / n.toNat * n.toNat:=Nat.mul_comm _ _
  have:n=2 ∨ n=3 ∨ n=4:=by omega
  rcases h with ⟨h1,h2⟩ | ⟨h1,h2⟩
  ·refine ⟨at',at' / n.toNat * n.toNat + u,by omega,?_,Ne.symm h1,.inl ?_,by rw [hat]; omega,by rw [hat,h2]⟩
   all_goals
    rcases this with rfl | rfl | rfl <;> try simp only [zt2,zt3,zt4] at * <;> omega
  ·refine ⟨at',u * n.toNat + at' % n.toNat,by omega,?_,Ne.symm h1,.inr ?_,by rw [hat]; omega,by rw [hat,h2]⟩
   all_goals
    rcases this with rfl | rfl | rfl <;> try simp only [zt2,zt3,zt4] at * <;> omega
theorem own_away {n:Int} {g:List Int} {at':Nat} {v:Int} {cells:List Int} (hc:¬ (at':Int) ∈ cells) (hp:∀ c ∈ cells,0 ≤ c):ownOf (openOf n (g.set at' v)) cells=ownOf (openOf n g) cells:=by
 unfold ownOf
 refine List.map_congr_left fun c hm=>?_
 have hne:at' ≠ c.toNat:=fun e=>hc (by have:=hp c hm; rw [show (at':Int)=c by omega]; exact hm)
 unfold gv openOf
 rw [List.getD_eq_getElem?_getD,List.getD_eq_getElem?_getD,List.getElem?_map,List.getElem?_map,List.getElem?_set_ne hne]
theorem fits_step {n:Int} {given:List Int} {vs:List V} {g:List Int} (hf:fitsV n given vs g=true) (hg:gridOk g n=true) (hle:Le given g) (hgg:∀ x,0 ≤ given.getD x 0) {at':Nat} (ha:at' < g.length) (h0:g.getD at' 0=0) {v:Int} (hv:1 ≤ v∧v ≤ n) (hro:∀ r ∈ vs,ruleOkV n r=true) :
  fitsV n given vs (g.set at' v)=cellFitsV n vs (g.set at' v) at':=by
 obtain ⟨hn,h2,_⟩:=(gridOk_iff g n).1 hg
 unfold fitsV at hf ⊢
 simp only [Bool.and_eq_true,Bool.not_eq_true',List.all_eq_true] at hf
 obtain ⟨f1,f2,f3⟩:=hf
 have hl:g.length=n.toNat * n.toNat:=by
  have:n=2 ∨ n=3 ∨ n=4:=by omega
  rcases this with rfl | rfl | rfl <;> simp <;> omega
 have hc:compatB given (g.set at' v)=true:=by
  rw [compatB_iff] at f1 ⊢
  intro x hx h1 h3
  rw [getD_set] at h3 ⊢
  have hx':x < g.length:=by simpa using hx
  by_cases e:at'=x
  ·subst e
   rcases hle.2 at' with e | e <;> omega
  ·rw [if_neg (by omega)] at h3 ⊢; exact f1 x hx' h1 h3
 unfold cellFitsV
 rw [hc,Bool.true_and,cell_clash hn hl ha hv.1 f3 h0,Bool.and_comm]
 congr 1
 rw [Bool.eq_iff_iff,List.all_eq_true,List.all_eq_true]
 refine forall_congr' fun r=>forall_congr' fun hr=>?_
 by_cases hm:(at':Int) ∈ r.2.1
 ·have:r.2.1.contains (at':Int)=true:=List.contains_iff_mem.2 hm
  rw [this]; simp
 ·have:r.2.1.contains (at':Int)=false:=by rw [← Bool.not_eq_true,List.contains_iff_mem]; exact hm
  rw [this]
  have e:canHoldV n (g.set at' v) r=canHoldV n g r:=by
   unfold canHoldV
   rw [own_away hm fun c h=>((ruleOk_cells (hro r hr)).1 c h).1]
  rw [e,f2 r hr]; simp
theorem ext_getD {a b:List Int} (hl:a.length=b.length) (h:∀ i,i < a.length→a.getD i 0=b.getD i 0):a=b:=by
 apply List.ext_getElem hl
 intro i h1 h2
 have:=h i h1
 rw [List.getD_eq_getElem?_getD,List.getElem?_eq_getElem h1,List.getD_eq_getElem?_getD,List.getElem?_eq_getElem h2] at this
 exact this
theorem grid_set'' {g:List Int} {n:Int} (h:gridOk g n=true) (i:Nat) (v:Int) (hv:0 ≤ v∧v ≤ n):gridOk (g.set i v) n=true:=by
 obtain ⟨h1,h2,h3⟩:=(gridOk_iff g n).1 h
 refine (gridOk_iff _ n).2 ⟨h1,by simpa using h2,fun x hx=>?_⟩
 rcases List.mem_or_eq_of_mem_set hx with h | h
 ·exact h3 x h
 ·subst h; exact hv
theorem Le.up {g x:List Int} (h:Le g x) {i:Nat} (hi:i < g.length):Le (g.set i (x.getD i 0)) x:=⟨by simpa using h.1,fun j=>by
 rw [getD_set]
 split
 ·rename_i e; right; rw [e.1]
 ·exact h.2 j⟩
theorem Le.set {g:List Int} {i:Nat} (h0:g.getD i 0=0) (v:Int):Le g (g.set i v):=⟨by simp,fun j=>by
 rw [getD_set]
 split
 ·rename_i e; left; rw [← e.1]; exact h0
 ·exact .inr rfl⟩
def full (x:List Int):Prop:=∀ i,i < x.length→0 < x.getD i 0
theorem mem_sols {n:Int} {f:List Int→Bool} (hf:∀ g' g,Le g' g→gridOk g n=true→f g=true→f g'=true):∀ (rem:Nat) (g:List Int),rem ≤ g.length→gridOk g n=true→(∀ i,i < g.length - rem→0 < g.getD i 0)→f g=true→∀ x,x ∈ sols f n.toNat rem g ↔ gridOk x n=true∧Le g x∧full x∧f x=true:=by
 intro rem
 induction rem with
 | zero=>
  intro g hr hg hfu hfg x
  rw [sols,List.mem_singleton]
  constructor
  ·rintro rfl
   exact ⟨hg,Le.refl _,fun i hi=>hfu i (by omega),hfg⟩
  ·rintro ⟨h1,h2,h3,h4⟩
   refine (ext_getD h2.1 fun i hi=>?_).symm
   have:=hfu i (by omega)
   rcases h2.2 i with e | e
   ·omega
   ·exact e
 | succ rem ih=>
  intro g hr hg hfu hfg x
  have hat:g.length - (rem + 1) < g.length:=by omega
  obtain ⟨hn,h2,h3⟩:=(gridOk_iff g n).1 hg
  by_cases c:0 < g.getD (g.length - (rem + 1)) 0
  ·rw [sols,if_pos c]
   refine ih g (by omega) hg (fun i hi=>?_) hfg x
   by_cases e:i=g.length - (rem + 1)
   ·rw [e]; exact c
   ·exact hfu i (by omega)
  ·rw [sols,if_neg c,List.mem_flatMap]
   have hv:=h3 _ (mem_getD hat)
   have h0:g.getD (g.length - (rem + 1)) 0=0:=by omega
   have go:∀ v,1 ≤ v∧v ≤ n→f (g.set (g.length - (rem + 1)) v)=true→(x ∈ sols f n.toNat rem (g.set (g.length - (rem + 1)) v) ↔ gridOk x n=true∧Le (g.set (g.length - (rem + 1)) v) x∧full x∧f x=true):=fun v hv1 hfv=>by
    refine ih _ (by simp; omega) (grid_set'' hg _ v ⟨by omega,by omega⟩) (fun i hi=>?_) hfv x
    rw [List.length_set] at hi
    rw [getD_set]
    split
    ·omega
    ·rename_i e
     exact hfu i (by omega)
   constructor
   ·rintro ⟨v,hv1,hx⟩
    rw [mem_upto] at hv1
    split at hx
    ·rename_i hfv
     obtain ⟨q1,q2,q3,q4⟩:=(go v (by omega) hfv).1 hx
     exact ⟨q1,(Le.set h0 v).trans q2,q3,q4⟩
    ·cases hx
   ·rintro ⟨q1,q2,q3,q4⟩
    obtain ⟨_,l2,l3⟩:=(gridOk_iff x n).1 q1
    have hlx:g.length - (rem + 1) < x.length:=by rw [← q2.1]; exact hat
    have hxv:=l3 _ (mem_getD hlx)
    have hxp:=q3 _ hlx
    have hup:=q2.up hat
    have hfv:=hf _ _ hup q1 q4
    refine ⟨x.getD (g.length - (rem + 1)) 0,(mem_upto _ _ _).2 (by omega),?_⟩
    rw [if_pos hfv]
    exact (go _ (by omega) hfv).2 ⟨q1,hup,q3,q4⟩
theorem puzzleV_grid {n:Int} {given:List Int} {vs:List V} (h:puzzleV n given vs=true):gridOk given n=true∧vs.all (ruleOkV n)=true:=by
 unfold puzzleV at h
 simp only [Bool.and_eq_true] at h
 exact ⟨h.1,h.2.2⟩
theorem mem_allSols {n:Int} {given:List Int} {vs:List V} (hp:puzzleV n given vs=true) (x:List Int):x ∈ allSols n given vs ↔ gridOk x n=true∧Le given x∧full x∧fitsV n given vs x=true:=by
 obtain ⟨hg,hv⟩:=puzzleV_grid hp
 have anti:∀ g' g,Le g' g→gridOk g n=true→fitsV n given vs g=true→fitsV n given vs g'=true:=fun g' g h1 h2 h3=>fits_anti h1 h2 hv h3
 unfold allSols
 by_cases c:puzzleFitsV n given vs given=true
 ·rw [if_pos c]
  have c':=c
  unfold puzzleFitsV at c'
  simp only [Bool.and_eq_true] at c'
  exact mem_sols anti _ _ (Nat.le_refl _) hg (fun i hi=>by omega) c'.2.2 x
 ·rw [if_neg c]
  constructor
  ·intro h; cases h
  ·rintro ⟨h1,h2,h3,h4⟩
   refine absurd ?_ c
   unfold puzzleFitsV
   rw [hp,hg,anti _ _ h2 h1 h4]; rfl

theorem zeros_len {n:Int} (hn:2 ≤ n∧n ≤ 4):((zeros n).length:Int)=n * n∧(zeros n).length=(n * n).toNat∧(n * n).toNat ≤ 16:=by
 have:n=2 ∨ n=3 ∨ n=4:=by omega
 rcases this with rfl | rfl | rfl <;> decide
theorem zeros_at (n:Int) (i:Nat):(zeros n).getD i 0=0:=by
 unfold zeros
 rw [List.getD_eq_getElem?_getD,List.getElem?_replicate]
 split <;> rfl
theorem zeros_grid {n:Int} (hn:2 ≤ n∧n ≤ 4):gridOk (zeros n) n=true:=(gridOk_iff _ _).2 ⟨hn,(zeros_len hn).1,fun v hv=>by
 have:=(List.mem_replicate.1 hv).2; omega⟩
theorem zeros_clash {n:Int} (hn:2 ≤ n∧n ≤ 4):clash (zeros n) n=false:=by
 have:n=2 ∨ n=3 ∨ n=4:=by omega
 rcases this with rfl | rfl | rfl <;> decide
theorem zeros_Le {n:Int} {x:List Int} (hx:gridOk x n=true):Le (zeros n) x:=by
 obtain ⟨hn,h2,_⟩:=(gridOk_iff x n).1 hx
 have:=zeros_len hn
 exact ⟨by omega,fun i=>.inl (zeros_at n i)⟩
theorem clash_antiB (n:Int):∀ g' g,Le g' g→gridOk g n=true→(!clash g n)=true→(!clash g' n)=true:=fun g' g h1 _ h3=>by
 rw [Bool.not_eq_true'] at h3 ⊢; exact clash_anti h1 n h3
theorem mem_squares {n:Int} (hn:2 ≤ n∧n ≤ 4) (x:List Int):x ∈ squares n ↔ gridOk x n=true∧full x∧clash x n=false:=by
 unfold squares
 rw [mem_sols (clash_antiB n) _ _ (by have:=zeros_len hn; omega) (zeros_grid hn) (fun i hi=>by have:=zeros_len hn; omega) (by rw [zeros_clash hn]; rfl) x]
 constructor
 ·rintro ⟨a,b,c,d⟩; exact ⟨a,c,by simpa using d⟩
 ·rintro ⟨a,c,d⟩; exact ⟨a,zeros_Le a,c,by simpa using d⟩
theorem filled_eq {g:List Int}:filled g=g.length ↔ full g:=by
 unfold filled full
 rw [List.countP_eq_length]
 constructor
 ·intro h i hi; simpa using h _ (mem_getD hi)
 ·intro h v hv
  obtain ⟨i,hi,rfl⟩:=List.getElem_of_mem hv
  have:=h i hi
  rw [List.getD_eq_getElem?_getD,List.getElem?_eq_getElem hi] at this
  simpa using this
theorem sol_square {n:Int} {given:List Int} {vs:List V} (hp:puzzleV n given vs=true) {x:List Int} (hx:x ∈ allSols n given vs):x ∈ squares n:=by
 rw [mem_allSols hp] at hx
 have hn:=((gridOk_iff x n).1 hx.1).1
 rw [mem_squares hn]
 refine ⟨hx.1,hx.2.2.1,?_⟩
 have:=hx.2.2.2
 unfold fitsV at this
 simp only [Bool.and_eq_true,Bool.not_eq_true'] at this
 exact this.2.2
theorem squares_pos {n:Int} (hn:2 ≤ n∧n ≤ 4) {x:List Int} (hx:x ∈ squares n):fullG x n∧gridOk x n=true∧full x∧clash x n=false∧x.length ≤ 16:=by
 rw [mem_squares hn] at hx
 obtain ⟨_,h2,h3⟩:=(gridOk_iff x n).1 hx.1
 have:=zeros_len hn
 refine ⟨⟨by omega,fun v hv=>?_⟩,hx.1,hx.2.1,hx.2.2,gridOk_len hx.1⟩
 obtain ⟨i,hi,rfl⟩:=List.getElem_of_mem hv
 have p:=hx.2.1 i hi
 rw [List.getD_eq_getElem?_getD,List.getElem?_eq_getElem hi] at p
 have p':0 < x[i]:=by simpa using p
 exact ⟨by omega,(h3 _ (List.getElem_mem hi)).2⟩
theorem nodup_len {α:Type}:∀ (A B:List α),A.Nodup→(∀ x ∈ A,x ∈ B)→A.length ≤ B.length
 | [],B,_,_=>Nat.zero_le _
 | x :: A,B,hn,h=>by
  obtain ⟨s,t,e⟩:=List.append_of_mem (h x (by simp))
  subst e
  have hx:=(List.nodup_cons.1 hn).1
  have:=nodup_len A (s ++ t) (List.nodup_cons.1 hn).2 fun y hy=>by
   have hyx:y ≠ x:=fun e=>hx (e ▸ hy)
   have:=h y (List.mem_cons_of_mem _ hy)
   simp only [List.mem_append,List.mem_cons] at this ⊢
   rcases this with h | h | h
   ·exact .inl h
   ·exact absurd h hyx
   ·exact .inr h
  simp only [List.length_append,Zl] at this ⊢
  omega
theorem len_two:∀ {L:List Int},L.length=2→∃ x y,L=[x,y]
 | [x,y],_=>⟨x,y,rfl⟩
 | [],h=>by simp at h
 | [_],h=>by simp at h
 | _ :: _ :: _ :: _,h=>by simp at h
theorem maskOk_iff {n m:Int}:maskOk n m=true ↔ (0 ≤ m∧m ≤ topMask n)∧m.tmod 2=0:=by
 unfold maskOk
 simp
theorem tab_has0:∀ a:Nat,a < 32→((a:Int)).tmod 2=0→a.testBit 0=false:=by decide +kernel
theorem mv_has {n m:Int} (hm:maskOk n m=true) (v:Nat):has m v=true ↔ (v:Int) ∈ maskVals m:=by
 obtain ⟨h1,h2⟩:=maskOk_iff.1 hm
 have ht:=topMask_le n
 have hM:=maskOk_M hm
 rw [mem_maskVals ⟨h1.1,by omega⟩ h2,Int.toNat_natCast]
 constructor
 ·intro h
  refine ⟨?_,h⟩
  by_cases h5:5 ≤ v
  ·rw [has_big hM h5] at h; cases h
  ·by_cases h0:v=0
   ·subst h0
    obtain ⟨a,rfl,ha⟩:=hM.nat
    unfold has at h
    rw [Int.toNat_natCast,tab_has0 a ha h2] at h; cases h
   ·omega
 ·intro h; exact h.2
theorem tab_top:∀ n:Nat,n < 5→∀ m:Nat,m < 32→∀ w:Nat,w < 5→(2 ≤ n∧(m:Int) ≤ topMask n∧n < w)→m.testBit w=false:=by decide +kernel
theorem mv_top {n m:Int} (hn:2 ≤ n∧n ≤ 4) (hm:maskOk n m=true) {w:Int} (h:w ∈ maskVals m):1 ≤ w∧w ≤ n:=by
 obtain ⟨h1,h2⟩:=maskOk_iff.1 hm
 have ht:=topMask_le n
 have h0:=maskVals_mem h
 refine ⟨h0.1,?_⟩
 rw [mem_maskVals ⟨h1.1,by omega⟩ h2] at h
 apply Classical.byContradiction
 intro hc
 have hM:=maskOk_M hm
 obtain ⟨a,rfl,ha⟩:=hM.nat
 have e:=h.2
 unfold has at e
 rw [Int.toNat_natCast,tab_top n.toNat (by omega) a ha w.toNat (by omega) ⟨by omega,by rw [show ((n.toNat:Nat):Int)=n by omega]; exact h1.2,by omega⟩] at e
 cases e
def InM (l g:List Int):Prop:=∀ i,i < g.length→has (l.getD i 0) (g.getD i 0).toNat=true
theorem masks_at {n:Int} {l:List Int} (h:masksOk n l=true) {i:Nat} (hi:i < l.length):maskOk n (l.getD i 0)=true:=(masksOk_iff.1 h).2.1 _ (mem_getD hi)
theorem InM.mem {n:Int} {l g:List Int} (h:InM l g) (hl:masksOk n l=true) (hg:gridOk g n=true) {i:Nat} (hi:i < g.length):g.getD i 0 ∈ maskVals (l.getD i 0):=by
 have h1:=h i hi
 have e:=((gridOk_iff g n).1 hg).2.1
 have e2:=(masksOk_iff.1 hl).2.2
 rw [mv_has (masks_at hl (show i < l.length by omega))] at h1
 have hv:=((gridOk_iff g n).1 hg).2.2 _ (mem_getD hi)
 rw [show (((g.getD i 0).toNat:Nat):Int)=g.getD i 0 by omega] at h1
 exact h1
theorem square_len {n:Int} {l g:List Int} (hl:masksOk n l=true) (hg:gridOk g n=true):g.length=l.length:=by
 have e:=((gridOk_iff g n).1 hg).2.1
 have e2:=(masksOk_iff.1 hl).2.2
 omega
theorem square_line {n:Int} (hn:2 ≤ n∧n ≤ 4) {g:List Int} (hg:g ∈ squares n) {line i j:Nat} (hl:(line:Int) < 2 * n) (hi:(i:Int) < n) (hj:(j:Int) < n) (hij:i ≠ j):g.getD (lc n line i) 0 ≠ g.getD (lc n line j) 0:=by
 rw [mem_squares hn] at hg
 obtain ⟨h1,h2,h3⟩:=hg
 have hll:(lineCells n line).length=n.toNat:=(line_at hn hl hi).2
 have hnc:¬ clashL g (lineCells n line) []=true:=fun h=>by
  have:clash g n=true:=(clashFrom_iff g n _ 0).2 ⟨line,by omega,by omega,h⟩
  rw [h3] at this; cases this
 rw [clashL_iff] at hnc
 have hpos:∀ i:Nat,(i:Int) < n→0 < g.getD (lc n line i) 0:=fun i hi=>by
  have hm:=mem_getD (l:=lineCells n line) (i:=i) (by omega)
  have:=lineCells_mem hm
  have e:=((gridOk_iff g n).1 h1).2.1
  refine h2 _ ?_
  unfold lc; omega
 have e0:∀ z:Nat,gv g ((lineCells n line).getD z 0)=g.getD (lc n line z) 0:=fun z=>rfl
 intro he
 apply hnc
 rcases Nat.lt_or_gt_of_ne hij with h | h
 ·exact ⟨j,by omega,by rw [e0]; exact hpos j hj,.inr ⟨i,h,by rw [e0,e0]; exact he⟩⟩
 ·exact ⟨i,by omega,by rw [e0]; exact hpos i hi,.inr ⟨j,h,by rw [e0,e0]; exact he.symm⟩⟩
theorem lc_lt {n:Int} (hn:2 ≤ n∧n ≤ 4) {line i:Nat} (hl:(line:Int) < 2 * n) (hi:(i:Int) < n):(lc n line i:Int) < n * n∧((lc n line i:Nat):Int)=(lineCells n line).getD i 0:=by
 have hll:(lineCells n line).length=n.toNat:=(line_at hn hl hi).2
 have hm:=mem_getD (l:=lineCells n line) (i:=i) (by omega)
 have:=lineCells_mem hm
 unfold lc; omega
theorem line_val {n:Int} (hn:2 ≤ n∧n ≤ 4) {g:List Int} (hg:g ∈ squares n) {line:Nat} (hl:(line:Int) < 2 * n) {v:Int} (hv:1 ≤ v∧v ≤ n):∃ i:Nat,(i:Int) < n∧g.getD (lc n line i) 0=v:=by
 apply Classical.byContradiction
 intro hc
 have hp:=squares_pos hn hg
 have hlen:=hp.1.1
 have hz:=zeros_len hn
 have hnd:((List.range n.toNat).map fun i=>g.getD (lc n line i) 0).Nodup:=by
  unfold List.Nodup
  rw [List.pairwise_map]
  refine List.Pairwise.imp_of_mem (fun {a b} ha hb hab=>?_) (List.nodup_range (n:=n.toNat))
  rw [List.mem_range] at ha hb
  exact square_line hn hg hl (by omega) (by omega) hab
 have:=nodup_len (v :: ((List.range n.toNat).map fun i=>g.getD (lc n line i) 0)) (upto n.toNat 1) (List.nodup_cons.2 ⟨fun h=>by
  obtain ⟨i,hi,e⟩:=List.mem_map.1 h
  rw [List.mem_range] at hi
  exact hc ⟨i,by omega,e⟩,hnd⟩) (fun x hx=>by
   rw [mem_upto]
   rcases List.mem_cons.1 hx with e | e
   ·omega
   ·obtain ⟨i,hi,e⟩:=List.mem_map.1 e
    rw [List.mem_range] at hi
    have h1:=lc_lt hn hl (show (i:Int) < n by omega)
    have h2:=hp.1.2 _ (mem_getD (show lc n line i < g.length by omega))
    omega)
 have hul:∀ (j:Nat) (v:Int),(upto j v).length=j:=fun j=>by
  induction j with
  | zero=>intro v; rfl
  | succ j ih=>intro v; rw [upto,List.length_cons,ih]
 rw [hul] at this
 simp at this
 omega
/-! ### Nothing is lost -/
theorem Sub.keeps {l l' g:List Int} {P:Nat→Nat→Prop} (h:Sub l l' P) (hl:g.length=l.length) (hin:InM l g) (hp:∀ j,j < l.length→¬ P j (g.getD j 0).toNat):InM l' g:=fun i hi=>(h.has i _ (by omega)).2 ⟨hin i hi,hp i (by omega)⟩
theorem singles_sound {n:Int} {l g:List Int} (hl:masksOk n l=true) (hg:g ∈ squares n) (hin:InM l g) {j v:Nat} (hj:j < l.length) (hp:PS n.toNat l j v):(g.getD j 0).toNat ≠ v:=by
 have hn:=(masksOk_iff.1 hl).1
 obtain ⟨k,hk,hpe,hs,hv⟩:=hp
 have hq:=squares_pos hn hg
 have hlen:=square_len hl hq.2.1
 have m1:=hin.mem hl hq.2.1 (show k < g.length by omega)
 rw [mv_has (masks_at hl hk)] at hv
 unfold single at hs
 rw [beq_iff_eq] at hs
 have e:g.getD k 0=v:=by
  obtain ⟨x,ex⟩:=List.length_eq_one_iff.1 hs
  rw [ex,List.mem_singleton] at m1 hv
  omega
 intro hc
 have gj:=hq.1.2 _ (mem_getD (show j < g.length by omega))
 have gk:=hq.1.2 _ (mem_getD (show k < g.length by omega))
 have hcl:clash g n=true:=(clash_iff hn g).2 ⟨j,k,by have:=(masksOk_iff.1 hl).2.2; rcases (show n=2 ∨ n=3 ∨ n=4 by omega) with rfl | rfl | rfl <;> simp <;> omega,by have:=(masksOk_iff.1 hl).2.2; rcases (show n=2 ∨ n=3 ∨ n=4 by omega) with rfl | rfl | rfl <;> simp <;> omega,hpe.1,hpe.2,by omega,by omega⟩
 rw [hq.2.2.2.1] at hcl; cases hcl
theorem hidden_sound {n:Int} {l g:List Int} (hl:masksOk n l=true) (hg:g ∈ squares n) (hin:InM l g) {j w:Nat} (hj:j < l.length) (hp:PH n l j w):(g.getD j 0).toNat ≠ w:=by
 have hn:=(masksOk_iff.1 hl).1
 obtain ⟨line,v,h1,h2,h3,h4,h5⟩:=hp
 have hq:=squares_pos hn hg
 have hlen:=square_len hl hq.2.1
 obtain ⟨i,hi,hiv⟩:=line_val hn hg h1 (v:=v) ⟨by omega,h3⟩
 have hc:=lc_lt hn h1 hi
 have hsz:=(masksOk_iff.1 hl).2.2
 have hh:=hin (lc n line i) (by omega)
 rw [hiv,Int.toNat_natCast] at hh
 have hm:((lc n line i:Nat):Int) ∈ lineHas n l line v:=by
  unfold lineHas
  rw [List.mem_filter,hc.2]
  refine ⟨mem_getD (by have:=(line_at hn h1 hi).2; omega),?_⟩
  rw [← hc.2,Int.toNat_natCast]; exact hh
 rw [h4,List.mem_singleton] at hm
 rw [show lc n line i=j by omega] at hiv
 omega
theorem pairs_sound {n:Int} {l g:List Int} (hl:masksOk n l=true) (hg:g ∈ squares n) (hin:InM l g) {c v:Nat} (hj:c < l.length) (hp:PQ n l c v):(g.getD c 0).toNat ≠ v:=by
 have hn:=(masksOk_iff.1 hl).1
 obtain ⟨line,i,j,k,h1,h2,h3,h4,h5,h6,h7,h8,h9,h10⟩:=hp
 have hq:=squares_pos hn hg
 have hlen:=square_len hl hq.2.1
 have hsz:=(masksOk_iff.1 hl).2.2
 have ci:=lc_lt hn h1 h3
 have cj:=lc_lt hn h1 (show (j:Int) < n by omega)
 have mi:=hin.mem hl hq.2.1 (show lc n line i < g.length by omega)
 have mj:=hin.mem hl hq.2.1 (show lc n line j < g.length by omega)
 rw [← h7] at mj
 rw [mv_has (masks_at hl (by omega))] at h10
 have dij:=square_line hn hg h1 h3 (show (j:Int) < n by omega) (by omega)
 have dki:=square_line hn hg h1 h4 h3 h5
 have dkj:=square_line hn hg h1 h4 (show (j:Int) < n by omega) h6
 unfold two at h8
 rw [beq_iff_eq] at h8
 obtain ⟨x,y,exy⟩:=len_two h8
 rw [exy] at mi mj h10
 simp only [List.mem_cons,List.not_mem_nil,or_false] at mi mj h10
 have gk:=hq.1.2 _ (mem_getD (show c < g.length by omega))
 rw [h9] at gk ⊢
 omega
def cntM (m:Int):Nat:=(maskVals m).length
def total:List Int→Nat
 | []=>0
 | m :: l=>cntM m + total l
def SubM (a b:List Int):Prop:=a.length=b.length∧∀ i v:Nat,i < b.length→has (a.getD i 0) v=true→has (b.getD i 0) v=true
theorem SubM.refl (a:List Int):SubM a a:=⟨rfl,fun _ _ _ h=>h⟩
theorem SubM.trans {a b c:List Int} (h:SubM a b) (h':SubM b c):SubM a c:=⟨h.1.trans h'.1,fun i v hi hv=>h'.2 i v hi (h.2 i v (by rw [h'.1]; exact hi) hv)⟩
theorem InM.up {a b g:List Int} (h:InM a g) (hs:SubM a b) (hl:g.length=b.length):InM b g:=fun i hi=>hs.2 i _ (by omega) (h i hi)
theorem or_of_sub {a b:Nat} (h:∀ v:Nat,a.testBit v=true→b.testBit v=true):a ||| b=b:=by
 refine Nat.eq_of_testBit_eq fun v=>?_
 rw [Nat.testBit_or]
 cases e:a.testBit v with
 | false=>simp
 | true=>rw [h v e]; rfl
theorem tab_cnt:∀ a:Nat,a < 16→∀ b:Nat,b < 16→(2 * a) ||| (2 * b)=2 * b→(cntM ((2 * a:Nat):Int) ≤ cntM ((2 * b:Nat):Int)∧(cntM ((2 * a:Nat):Int)=cntM ((2 * b:Nat):Int)→a=b)):=by decide +kernel
theorem tab_even:∀ a:Nat,a < 32→∀ b:Nat,b < 32→a ||| b=b→((b:Int)).tmod 2=0→((a:Int)).tmod 2=0:=by decide +kernel
theorem mask_sub {n a b:Int} (ha:M a) (hb:maskOk n b=true) (h:∀ v:Nat,has a v=true→has b v=true):maskOk n a=true:=by
 obtain ⟨h1,h2⟩:=maskOk_iff.1 hb
 have hM:=maskOk_M hb
 obtain ⟨x,rfl,hx⟩:=ha.nat
 obtain ⟨y,rfl,hy⟩:=hM.nat
 have e:x ||| y=y:=or_of_sub fun v hv=>h v (by unfold has; rw [Int.toNat_natCast]; exact hv)
 have hle:x ≤ y:=by rw [← e]; exact Nat.left_le_or
 exact maskOk_iff.2 ⟨⟨by omega,by omega⟩,tab_even x hx y hy e h2⟩
theorem cnt_sub {n a b:Int} (ha:maskOk n a=true) (hb:maskOk n b=true) (h:∀ v:Nat,has a v=true→has b v=true):cntM a ≤ cntM b∧(cntM a=cntM b→a=b):=by
 obtain ⟨h1,h2⟩:=maskOk_iff.1 ha
 obtain ⟨h3,h4⟩:=maskOk_iff.1 hb
 have ht:=topMask_le n
 obtain ⟨x,hx,hx16⟩:∃ x:Nat,a=((2 * x:Nat):Int)∧x < 16:=⟨(a / 2).toNat,by rw [Int.tmod_eq_emod_of_nonneg h1.1] at h2; omega,by omega⟩
 obtain ⟨y,hy,hy16⟩:∃ y:Nat,b=((2 * y:Nat):Int)∧y < 16:=⟨(b / 2).toNat,by rw [Int.tmod_eq_emod_of_nonneg h3.1] at h4; omega,by omega⟩
 subst hx; subst hy
 have e:(2 * x) ||| (2 * y)=2 * y:=or_of_sub fun v hv=>by
  have:=h v (by unfold has; rw [Int.toNat_natCast]; exact hv)
  unfold has at this
  rw [Int.toNat_natCast] at this; exact this
 obtain ⟨q1,q2⟩:=tab_cnt x hx16 y hy16 e
 exact ⟨q1,fun h=>by rw [q2 h]⟩
theorem total_sub {n:Int}:∀ (a b:List Int),(∀ m ∈ a,maskOk n m=true)→(∀ m ∈ b,maskOk n m=true)→SubM a b→total a ≤ total b∧(total a=total b→a=b)
 | [],[],_,_,_=>⟨Nat.le_refl _,fun _=>rfl⟩
 | [],_ :: _,_,_,h=>by have:=h.1; simp at this
 | _ :: _,[],_,_,h=>by have:=h.1; simp at this
 | x :: a,y :: b,ha,hb,h=>by
  have h0:=cnt_sub (ha x (by simp)) (hb y (by simp)) (fun v hv=>by have:=h.2 0 v (by simp) (by simpa using hv); simpa using this)
  have ih:=total_sub a b (fun m hm=>ha m (List.mem_cons_of_mem _ hm)) (fun m hm=>hb m (List.mem_cons_of_mem _ hm)) ⟨by have:=h.1; simpa using this,fun i v hi hv=>by
   have:=h.2 (i + 1) v (by simp; omega) (by simpa using hv); simpa using this⟩
  simp only [total]
  refine ⟨by omega,fun he=>?_⟩
  rw [h0.2 (by omega),ih.2 (by omega)]
theorem masks_total {n:Int} {a b:List Int} (ha:masksOk n a=true) (hb:masksOk n b=true) (h:SubM a b):total a ≤ total b∧(a ≠ b→total a < total b):=by
 obtain ⟨h1,h2⟩:=total_sub a b (masksOk_iff.1 ha).2.1 (masksOk_iff.1 hb).2.1 h
 exact ⟨h1,fun hne=>by rcases Nat.lt_or_eq_of_le h1 with e | e; exact e; exact absurd (h2 e) hne⟩
theorem Sub.subM {l l':List Int} {P:Nat→Nat→Prop} (h:Sub l l' P):SubM l' l:=⟨h.len,fun i v hi hv=>((h.has i v hi).1 hv).1⟩
theorem masks_subM {n:Int} {a b:List Int} (ha:Ms a) (hb:masksOk n b=true) (h:SubM a b):masksOk n a=true:=by
 obtain ⟨h1,h2,h3⟩:=masksOk_iff.1 hb
 refine masksOk_iff.2 ⟨h1,fun m hm=>?_,by rw [h.1]; exact h3⟩
 obtain ⟨i,hi,rfl⟩:=List.getElem_of_mem hm
 have e:a.getD i 0=a[i]:=by simp [List.getD_eq_getElem?_getD,hi]
 have hib:i < b.length:=by rw [← h.1]; exact hi
 rw [← e]
 exact mask_sub (ha.at i) (masks_at hb hib) fun v hv=>h.2 i v hib hv
theorem Sub.ok {n:Int} {l l':List Int} {P:Nat→Nat→Prop} (h:Sub l l' P) (hl:masksOk n l=true):masksOk n l'=true:=masks_subM h.ms hl h.subM
theorem cntM_le (m:Int):cntM m ≤ 4:=by
 unfold cntM maskVals
 split
 ·have:∀ (j v:Nat),(mvFrom m v j).length ≤ j:=fun j=>by
   induction j with
   | zero=>intro v; simp [mvFrom]
   | succ j ih=>intro v; rw [mvFrom,List.length_append]; have:=ih (v + 1); split <;> simp <;> omega
  exact this 4 1
 ·simp
theorem tab_cntn:∀ n:Nat,n < 5→∀ m:Nat,m < 32→(2 ≤ n∧(m:Int) ≤ topMask n)→cntM m ≤ n:=by decide +kernel
theorem cntM_n {n m:Int} (hn:2 ≤ n∧n ≤ 4) (h:maskOk n m=true):cntM m ≤ n.toNat:=by
 have hM:=maskOk_M h
 obtain ⟨h1,h2⟩:=maskOk_iff.1 h
 obtain ⟨a,rfl,ha⟩:=hM.nat
 exact tab_cntn n.toNat (by omega) a ha ⟨by omega,by rw [show ((n.toNat:Nat):Int)=n by omega]; exact h1.2⟩
theorem total_n {n:Int} (hn:2 ≤ n∧n ≤ 4):∀ (l:List Int),(∀ m ∈ l,maskOk n m=true)→total l ≤ n.toNat * l.length
 | [],_=>by simp [total]
 | m :: l,h=>by
  have h0:=cntM_n hn (h m (by simp))
  have ih:=total_n hn l fun x hx=>h x (List.mem_cons_of_mem _ hx)
  simp only [total,Zl,Nat.mul_succ]
  omega
theorem total_le {n:Int} {l:List Int} (h:masksOk n l=true):total l ≤ 64:=by
 obtain ⟨hn,h2,h3⟩:=masksOk_iff.1 h
 have:=total_n hn l h2
 have hl:=masks_len h
 have:n=2 ∨ n=3 ∨ n=4:=by omega
 rcases this with rfl | rfl | rfl <;> simp at * <;> omega
/-! ### Rounds -/
def nextFrom (N:List Int→Int→List Int) (l:List Int):Nat→Int→Option (Int × List Int)
 | 0,_=>none
 | j + 1,t=>if N l t=l then nextFrom N l j (t + 1) else some (t,N l t)
theorem next_none {N:List Int→Int→List Int} {l:List Int}:∀ (j:Nat) (t:Int),nextFrom N l j t=none ↔ ∀ u,t ≤ u→u < t + j→N l u=l
 | 0,t=>by simp [nextFrom]; intro u; omega
 | j + 1,t=>by
  rw [nextFrom]
  split
  ·rename_i e
   rw [next_none j (t + 1)]
   constructor
   ·intro h u h1 h2
    by_cases hu:u=t
    ·rw [hu]; exact e
    ·exact h u (by omega) (by omega)
   ·intro h u h1 h2; exact h u (by omega) (by omega)
  ·rename_i e
   constructor
   ·intro h; cases h
   ·intro h; exact absurd (h t (by omega) (by omega)) e
theorem next_some {N:List Int→Int→List Int} {l:List Int}:∀ (j:Nat) (t:Int) {u:Int} {l':List Int},nextFrom N l j t=some (u,l')→(t ≤ u∧u < t + j)∧l'=N l u∧l' ≠ l∧∀ w,t ≤ w→w < u→N l w=l
 | 0,t,u,l',h=>by cases h
 | j + 1,t,u,l',h=>by
  rw [nextFrom] at h
  split at h
  ·rename_i e
   obtain ⟨h1,h2,h3,h4⟩:=next_some j (t + 1) h
   refine ⟨by omega,h2,h3,fun w hw1 hw2=>?_⟩
   by_cases hu:w=t
   ·rw [hu]; exact e
   ·exact h4 w (by omega) hw2
  ·rename_i e
   simp only [Option.some.injEq,Prod.mk.injEq] at h
   obtain ⟨rfl,rfl⟩:=h
   exact ⟨by omega,rfl,e,fun w h1 h2=>by omega⟩
def stepsV (N:List Int→Int→List Int) (most:Nat):Nat→List Int→List (Int × List Int)
 | 0,_=>[]
 | F + 1,l=>match nextFrom N l most 1 with
  | none=>[]
  | some (t,l')=>(t,l') :: stepsV N most F l'
def lastV:List (Int × List Int)→List Int→List Int
 | [],l=>l
 | x :: r,_=>lastV r x.2
def Good (N:List Int→Int→List Int) (n:Int) (most:Nat):Prop:=∀ l t,masksOk n l=true→1 ≤ t→t < 1 + (most:Int)→masksOk n (N l t)=true∧SubM (N l t) l
theorem next_good {N:List Int→Int→List Int} {n:Int} {most:Nat} (hN:Good N n most) {l:List Int} (hl:masksOk n l=true) {t:Int} {l':List Int} (h:nextFrom N l most 1=some (t,l')):masksOk n l'=true∧SubM l' l∧total l' < total l:=by
 obtain ⟨h1,h2,h3,_⟩:=next_some _ _ h
 obtain ⟨a,b⟩:=hN l t hl h1.1 h1.2
 subst h2
 exact ⟨a,b,(masks_total a hl b).2 h3⟩
theorem steps_fuel {N:List Int→Int→List Int} {n:Int} {most:Nat} (hN:Good N n most):∀ (F F':Nat) (l:List Int),masksOk n l=true→total l < F→total l < F'→stepsV N most F l=stepsV N most F' l
 | 0,_,_,_,h,_=>by omega
 | _ + 1,0,_,_,_,h=>by omega
 | F + 1,F' + 1,l,hl,h,h'=>by
  rw [stepsV,stepsV]
  cases e:nextFrom N l most 1 with
  | none=>rfl
  | some x=>
   obtain ⟨t,l'⟩:=x
   obtain ⟨a,b,c⟩:=next_good hN hl e
   simp only
   rw [steps_fuel hN F F' l' a (by omega) (by omega)]
def runS (N:List Int→Int→List Int) (most:Nat) (l:List Int):List (Int × List Int):=stepsV N most (total l + 1) l
theorem runS_none {N:List Int→Int→List Int} {most:Nat} {l:List Int} (h:nextFrom N l most 1=none):runS N most l=[]:=by
 unfold runS; rw [stepsV,h]
theorem runS_some {N:List Int→Int→List Int} {n:Int} {most:Nat} (hN:Good N n most) {l:List Int} (hl:masksOk n l=true) {t:Int} {l':List Int} (h:nextFrom N l most 1=some (t,l')):runS N most l=(t,l') :: runS N most l':=by
 unfold runS
 rw [stepsV,h]
 simp only
 obtain ⟨a,b,c⟩:=next_good hN hl h
 rw [steps_fuel hN _ (total l' + 1) l' a (by omega) (by omega)]
theorem runS_ind {N:List Int→Int→List Int} {n:Int} {most:Nat} (hN:Good N n most) {C:List Int→List (Int × List Int)→Prop} (h0:∀ l,masksOk n l=true→nextFrom N l most 1=none→C l []) (h1:∀ l t l',masksOk n l=true→masksOk n l'=true→SubM l' l→total l' < total l→nextFrom N l most 1=some (t,l')→C l' (runS N most l')→C l ((t,l') :: runS N most l')) :
  ∀ (F:Nat) (l:List Int),masksOk n l=true→total l < F→C l (runS N most l)
 | 0,_,_,h=>by omega
 | F + 1,l,hl,h=>by
  cases e:nextFrom N l most 1 with
  | none=>rw [runS_none e]; exact h0 l hl e
  | some x=>
   obtain ⟨t,l'⟩:=x
   obtain ⟨a,b,c⟩:=next_good hN hl e
   rw [runS_some hN hl e]
   exact h1 l t l' hl a b c e (runS_ind hN h0 h1 F l' a (by omega))
theorem run_end {N:List Int→Int→List Int} {n:Int} {most:Nat} (hN:Good N n most) {l:List Int} (hl:masksOk n l=true):masksOk n (lastV (runS N most l) l)=true∧SubM (lastV (runS N most l) l) l∧nextFrom N (lastV (runS N most l) l) most 1=none∧(runS N most l).length + total (lastV (runS N most l) l) ≤ total l:=by
 refine runS_ind hN (C:=fun l r=>masksOk n (lastV r l)=true∧SubM (lastV r l) l∧nextFrom N (lastV r l) most 1=none∧r.length + total (lastV r l) ≤ total l) ?_ ?_ (total l + 1) l hl (by omega)
 ·intro l hl e
  exact ⟨hl,SubM.refl l,e,by simp [lastV]⟩
 ·intro l t l' hl hl' hs ht e h
  refine ⟨h.1,h.2.1.trans hs,h.2.2.1,?_⟩
  have:=h.2.2.2
  simp only [lastV,Zl]
  omega
def NilOr (H0 H:Hp) (t:Sl) (l:List Int):Prop:=(t=Sl.none∧l=[]) ∨ Own 1 H0 H t (l.map (.int .i64))
theorem NilOr.reads {H0 H:Hp} {t:Sl} {l:List Int} (h:NilOr H0 H t l):Reads .i64 H t l:=by
 rcases h with ⟨h1,h2⟩ | h
 ·subst h1; subst h2; exact reads_nil rfl
 ·exact own_reads h
theorem NilOr.pf {H0 H H':Hp} {t:Sl} {l:List Int} (h:NilOr H0 H t l) (g:H <+: H'):NilOr H0 H' t l:=by
 rcases h with h | h
 ·exact .inl h
 ·exact .inr (own_pf h g)
theorem NilOr.base {H0 H1 H:Hp} {t:Sl} {l:List Int} (h:NilOr H1 H t l) (g:H0 <+: H1):NilOr H0 H t l:=by
 rcases h with h | h
 ·exact .inl h
 ·exact .inr (own_base h g)
theorem NilOr.nn {H0 H:Hp} {t:Sl} {l:List Int} (h:NilOr H0 H t l) (hl:l ≠ []):t.nil=false:=by
 rcases h with ⟨_,h⟩ | h
 ·exact absurd h hl
 ·exact h.nn
theorem OnesCount_ok {k:Nat} (hk:2 ≤ k) {n m:Int} (hm:maskOk n m=true) (H:Hp):callF PP orc k math_bits_OnesCount.id [.int .u64 (IntKind.u64.wrap m)] H=some (.int .i64 (cntM m),H):=by
 obtain ⟨k,rfl⟩:=Zs k (by omega)
 rw [math_bits_OnesCount.call]
 have h1:callF PP orc k math_bits_OnesCount64.id [.int .u64 (IntKind.u64.wrap m)] H=some (.int .i64 (cntM m),H):=by
  obtain ⟨k,rfl⟩:=Zs k (by omega)
  rw [math_bits_OnesCount64.call]
  obtain ⟨h1,h2⟩:=maskOk_iff.1 hm
  have ht:=topMask_le n
  obtain ⟨a,ha,ha16⟩:∃ a:Nat,m=((2 * a:Nat):Int)∧a < 16:=⟨(m / 2).toNat,by rw [Int.tmod_eq_emod_of_nonneg h1.1] at h2; omega,by omega⟩
  subst ha
  have:a=0 ∨ a=1 ∨ a=2 ∨ a=3 ∨ a=4 ∨ a=5 ∨ a=6 ∨ a=7 ∨ a=8 ∨ a=9 ∨ a=10 ∨ a=11 ∨ a=12 ∨ a=13 ∨ a=14 ∨ a=15:=by omega
  rcases this with rfl | rfl | rfl | rfl | rfl | rfl | rfl | rfl | rfl | rfl | rfl | rfl | rfl | rfl | rfl | rfl <;> (show _=_; kernel_rfl)
 simp only [math_bits_OnesCount.f,h1,Zo,AV.toI,if_true]
theorem all_getD {p:Int→Bool} {l:List Int} {i:Nat} (h:i < l.length):(l.drop i).all p=(p (l.getD i 0) && (l.drop (i + 1)).all p):=by
 rw [List.drop_eq_getElem_cons h,List.all_cons,List.getD_eq_getElem?_getD,List.getElem?_eq_getElem h]; rfl
theorem tab_andnot:∀ n:Nat,n < 5→∀ m:Nat,m < 64→(n < 2 ∨ ((IntKind.i64.wrap (((BitVec.ofInt IntKind.i64.bits ((m:Nat):Int) &&& ~~~(BitVec.ofInt IntKind.i64.bits (topMask n))).toNat:Int))) != 0)=!maskOk n m):=by decide +kernel
theorem implMasksValid_l2 {k:Nat} (hk:1 ≤ k) {n:Int} (hn:2 ≤ n∧n ≤ 4) {H:Hp} {s:Sl} {l:List Int} (hs:Reads .i64 H s l) (hl:l.length ≤ 1000) (hr:∀ m ∈ l,-2 ≤ m∧m ≤ 63) :
  ∀ (j i fuel:Nat),i + j=l.length→j < fuel→impl_MasksValid.l2 (callF PP orc k) k fuel n s (l.length:Int) i H=some (.bool ((l.drop i).all (maskOk n)),H):=by
 have hsl:=hs.len
 intro j
 induction j with
 | zero=>
  intro i fuel hi hf
  obtain ⟨fuel,rfl⟩:=Zs fuel (by omega)
  rw [List.drop_eq_nil_of_le (by omega)]
  simp (disch:=omega) only [impl_MasksValid.l2,dt,df,bt,bf,nt,nf,Za,Zy,Zx,Zt,Zf,Zn,Zz,Zi,Zo,wr,AV.toB,AV.toI,AV.toS,if_true,List.all_nil]
 | succ j ih=>
  intro i fuel hi hf
  obtain ⟨fuel,rfl⟩:=Zs fuel (by omega)
  have hi2:i < l.length:=by omega
  have hm:=hr _ (mem_getD hi2)
  have d1:=ih (i + 1) fuel (by omega) (by omega)
  push_cast at d1
  rw [all_getD hi2]
  by_cases c:l.getD i 0 < 0
  ·have e:maskOk n (l.getD i 0)=false:=by
    rw [Bool.eq_false_iff]; intro h; have:=(maskOk_iff.1 h).1; omega
   rw [e,Bool.false_and]
   simp (disch:=omega) only [impl_MasksValid.l2,impl_MasksValid.j3,dt,df,bt,bf,nt,nf,Za,Zy,Zx,Zt,Zf,Zn,Zz,Zi,Zo,wr,AV.toB,AV.toI,AV.toS,if_true,rdn hs]
  ·have ht:=tab_andnot n.toNat (by omega) (l.getD i 0).toNat (by omega)
   rw [show ((n.toNat:Nat):Int)=n by omega,show (((l.getD i 0).toNat:Nat):Int)=l.getD i 0 by omega] at ht
   have ht':=ht.resolve_left (by omega)
   cases e:maskOk n (l.getD i 0) with
   | false=>
    rw [e] at ht'
    simp (disch:=omega) only [impl_MasksValid.l2,impl_MasksValid.j3,dt,df,bt,bf,nt,nf,Za,Zy,Zx,Zt,Zf,Zn,Zz,Zi,Zo,wr,AV.toB,AV.toI,AV.toS,if_true,rdn hs,allValues_ok hk hn,ht',Bool.false_and]
   | true=>
    rw [e] at ht'
    simp (disch:=omega) only [impl_MasksValid.l2,impl_MasksValid.j3,impl_MasksValid.j4,dt,df,bt,bf,nt,nf,Za,Zy,Zx,Zt,Zf,Zn,Zz,Zi,Zo,wr,AV.toB,AV.toI,AV.toS,if_true,rdn hs,allValues_ok hk hn,ht',Bool.true_and,d1]
theorem implMasksValid_ok {k:Nat} (hk:2000000 ≤ k) {n:Int} (hb:-1 ≤ n∧n ≤ 5) {H:Hp} {s:Sl} {l:List Int} (hs:Reads .i64 H s l) (hl:l.length ≤ 1000) (hr:∀ m ∈ l,-2 ≤ m∧m ≤ 63) :
  callF PP orc k impl_MasksValid.id [.sl 1 s,.int .i64 n] H=some (.bool (masksOk n l),H):=by
 obtain ⟨k,rfl⟩:=Zs k (by omega)
 rw [impl_MasksValid.call]
 have hsl:=hs.len
 have h1:=sizeOk_ok (show 1 ≤ k by omega) n H
 have h7:=n7 hb
 unfold masksOk
 by_cases hn:2 ≤ n∧n ≤ 4
 ·rw [decide_eq_true hn] at h1 ⊢
  by_cases c:(l.length:Int)=n * n
  ·have d1:=implMasksValid_l2 (show 1 ≤ k by omega) hn hs hl hr l.length 0 k (by omega) (by omega)
   simp only [Int.natCast_zero,List.drop_zero] at d1
   rw [decide_eq_true c,Bool.and_true,Bool.true_and]
   simp (disch:=omega) only [impl_MasksValid.f,impl_MasksValid.j0,impl_MasksValid.j1,dt,df,bt,bf,nt,nf,Za,Zy,Zx,Zt,Zf,Zn,Zz,Zi,Zo,wr,AV.toB,AV.toI,AV.toS,if_true,h1,hsl,wr (n:=n * n),nf c,d1]
  ·rw [decide_eq_false c,Bool.and_false,Bool.and_false]
   simp (disch:=omega) only [impl_MasksValid.f,impl_MasksValid.j0,impl_MasksValid.j1,dt,df,bt,bf,nt,nf,Za,Zy,Zx,Zt,Zf,Zn,Zz,Zi,Zo,wr,AV.toB,AV.toI,AV.toS,if_true,h1,hsl,wr (n:=n * n),nt c]
 ·rw [decide_eq_false hn] at h1 ⊢
  rw [Bool.false_and]
  simp only [impl_MasksValid.f,impl_MasksValid.j0,dt,df,bt,bf,nt,nf,Za,Zy,Zx,Zt,Zf,Zn,Zz,Zi,Zo,wr,AV.toB,AV.toI,AV.toS,if_true,h1]
theorem Equal_l0 (rec:Rec) (k:Nat) {H:Hp} {s t:Sl} {x y:List Int} (hs:Reads .i64 H s x) (ht:Reads .i64 H t y) (hl:x.length=y.length) (h1:x.length ≤ 1000) :
  ∀ (j i fuel:Nat),i + j=x.length→j < fuel→slices_Equal_int.l0 rec k fuel s t (x.length:Int) i H=some (.bool (decide (x.drop i=y.drop i)),H):=by
 have hsl:=hs.len
 have htl:=ht.len
 intro j
 induction j with
 | zero=>
  intro i fuel hi hf
  obtain ⟨fuel,rfl⟩:=Zs fuel (by omega)
  rw [List.drop_eq_nil_of_le (show x.length ≤ i by omega),List.drop_eq_nil_of_le (show y.length ≤ i by omega)]
  simp (disch:=omega) only [slices_Equal_int.l0,dt,df,bt,bf,nt,nf,Za,Zy,Zx,Zt,Zf,Zn,Zz,Zi,Zo,wr,AV.toB,AV.toI,AV.toS,if_true]
  rfl
 | succ j ih=>
  intro i fuel hi hf
  obtain ⟨fuel,rfl⟩:=Zs fuel (by omega)
  have hx:i < x.length:=by omega
  have hy:i < y.length:=by omega
  have ex:x.drop i=x.getD i 0 :: x.drop (i + 1):=by
   rw [List.drop_eq_getElem_cons hx,List.getD_eq_getElem?_getD,List.getElem?_eq_getElem hx]; rfl
  have ey:y.drop i=y.getD i 0 :: y.drop (i + 1):=by
   rw [List.drop_eq_getElem_cons hy,List.getD_eq_getElem?_getD,List.getElem?_eq_getElem hy]; rfl
  rw [ex,ey]
  by_cases c:x.getD i 0=y.getD i 0
  ·have d1:=ih (i + 1) fuel (by omega) (by omega)
   push_cast at d1
   rw [show decide (x.getD i 0 :: x.drop (i + 1)=y.getD i 0 :: y.drop (i + 1))=decide (x.drop (i + 1)=y.drop (i + 1)) by rw [c]; simp,← d1]
   simp (disch:=omega) only [slices_Equal_int.l0,dt,df,bt,bf,nt,nf,Za,Zy,Zx,Zt,Zf,Zn,Zz,Zi,Zo,wr,AV.toB,AV.toI,AV.toS,if_true,rdn hs,rdn ht,nf]
  ·rw [show decide (x.getD i 0 :: x.drop (i + 1)=y.getD i 0 :: y.drop (i + 1))=false from decide_eq_false fun h=>c (List.cons.inj h).1]
   simp (disch:=omega) only [slices_Equal_int.l0,dt,df,bt,bf,nt,nf,Za,Zy,Zx,Zt,Zf,Zn,Zz,Zi,Zo,wr,AV.toB,AV.toI,AV.toS,if_true,rdn hs,rdn ht,nt]
theorem Equal_ok {k:Nat} (hk:2000000 ≤ k) {H:Hp} {s t:Sl} {x y:List Int} (hs:Reads .i64 H s x) (ht:Reads .i64 H t y) (h1:x.length ≤ 1000) (h2:y.length ≤ 1000) :
  callF PP orc k slices_Equal_int.id [.sl 1 s,.sl 1 t] H=some (.bool (decide (x=y)),H):=by
 obtain ⟨k,rfl⟩:=Zs k (by omega)
 rw [slices_Equal_int.call]
 have hsl:=hs.len
 have htl:=ht.len
 by_cases c:x.length=y.length
 ·have d1:=Equal_l0 (callF PP orc k) k hs ht c h1 x.length 0 k (by omega) (by omega)
  simp only [Int.natCast_zero,List.drop_zero] at d1
  rw [← d1,← hsl]
  simp (disch:=omega) only [slices_Equal_int.f,dt,df,bt,bf,nt,nf,Za,Zy,Zx,Zt,Zf,Zn,Zz,Zi,Zo,wr,AV.toB,AV.toI,AV.toS,if_true]
 ·rw [decide_eq_false (fun h=>c (congrArg List.length h))]
  simp (disch:=omega) only [slices_Equal_int.f,dt,df,bt,bf,nt,nf,Za,Zy,Zx,Zt,Zf,Zn,Zz,Zi,Zo,wr,AV.toB,AV.toI,AV.toS,if_true]
/-! ### The only value of a mask -/
def ovFrom (m:Int):Int→Nat→Int
 | _,0=>0
 | v,j + 1=>if m=pw v then v else ovFrom m (v + 1) j
def oneOf (m:Int):Int:=if (maskVals m).length=1 then (maskVals m).headD 0 else 0
theorem tab_ov:∀ a:Nat,a < 16→ovFrom ((2 * a:Nat):Int) 1 4=oneOf ((2 * a:Nat):Int):=by decide +kernel
theorem ov_one {n m:Int} (hm:maskOk n m=true):ovFrom m 1 4=oneOf m:=by
 obtain ⟨h1,h2⟩:=maskOk_iff.1 hm
 have ht:=topMask_le n
 obtain ⟨a,ha,ha16⟩:∃ a:Nat,m=((2 * a:Nat):Int)∧a < 16:=⟨(m / 2).toNat,by rw [Int.tmod_eq_emod_of_nonneg h1.1] at h2; omega,by omega⟩
 rw [ha]; exact tab_ov a ha16
theorem onlyValue_l0 (rec:Rec) (k:Nat) {m:Int} {H:Hp}:∀ (j fuel:Nat) (v:Int),v + j=5→1 ≤ v→j < fuel→impl_onlyValue.l0 rec k fuel m v H=some (.int .i64 (ovFrom m v j),H):=by
 intro j
 induction j with
 | zero=>
  intro fuel v hv h1 hf
  obtain ⟨fuel,rfl⟩:=Zs fuel (by omega)
  simp (disch:=omega) only [impl_onlyValue.l0,dt,df,bt,bf,nt,nf,Za,Zy,Zx,Zt,Zf,Zn,Zz,Zi,Zo,wr,AV.toB,AV.toI,AV.toS,if_true,ovFrom]
 | succ j ih=>
  intro fuel v hv h1 hf
  obtain ⟨fuel,rfl⟩:=Zs fuel (by omega)
  by_cases c:m=pw v
  ·rw [ovFrom,if_pos c]
   simp (disch:=omega) only [impl_onlyValue.l0,dt,Zt,iN,m_shl (v:=v),bt c]
  ·rw [ovFrom,if_neg c]
   have d1:=ih fuel (v + 1) (by omega) (by omega) (by omega)
   simp (disch:=omega) only [impl_onlyValue.l0,dt,Zt,Zf,iN,m_shl (v:=v),bf c,wr (n:=v + 1),d1]
theorem onlyValue_ok {k:Nat} (hk:2000000 ≤ k) {n m:Int} (hm:maskOk n m=true) (H:Hp):callF PP orc k impl_onlyValue.id [.int .i64 m] H=some (.int .i64 (oneOf m),H):=by
 obtain ⟨k,rfl⟩:=Zs k (by omega)
 rw [impl_onlyValue.call,← ov_one hm]
 exact onlyValue_l0 _ _ 4 k 1 (by omega) (by omega) (by omega)
theorem oneOf_single {n m:Int} (hm:maskOk n m=true):(oneOf m=0 ↔ single m=false)∧(single m=true→maskVals m=[oneOf m]∧1 ≤ oneOf m):=by
 unfold oneOf single
 by_cases c:(maskVals m).length=1
 ·obtain ⟨x,ex⟩:=List.length_eq_one_iff.1 c
  have hx:=maskVals_mem (m:=m) (x:=x) (by rw [ex]; simp)
  rw [if_pos c,ex]
  simp only [List.headD_cons,List.length_singleton,beq_self_eq_true]
  exact ⟨⟨fun h=>by omega,fun h=>by cases h⟩,fun _=>⟨trivial,hx.1⟩⟩
 ·rw [if_neg c]
  have:((maskVals m).length == 1)=false:=by simpa using c
  rw [this]
  exact ⟨⟨fun _=>rfl,fun _=>rfl⟩,fun h=>by cases h⟩
/-! ### How many values -/
theorem total_drop {l:List Int} {i:Nat} (h:i < l.length):total (l.drop i)=cntM (l.getD i 0) + total (l.drop (i + 1)):=by
 rw [List.drop_eq_getElem_cons h,total,List.getD_eq_getElem?_getD,List.getElem?_eq_getElem h]; rfl
def massV (n:Int) (l:List Int):Int:=if masksOk n l=true then (total l:Int) else -1
theorem specCount_l0 {k:Nat} (hk:2000000 ≤ k) {H0:Hp} {ms:Sl} {l:List Int} (hm:Reads .i64 H0 ms l) (hl:l.length ≤ 1000) :
  ∀ (j i fuel:Nat) (H:Hp) (r:Nat),i + j=l.length→j < fuel→H0 <+: H→r ≤ 4 * i→∃ H',spec_MasksCount.l0 (callF PP orc k) k fuel ms (r:Int) i H=some (.int .i64 ((r + total (l.drop i):Nat):Int),H')∧H0 <+: H':=by
 have hml:=hm.len
 intro j
 induction j with
 | zero=>
  intro i fuel H r hi hf hp hr
  obtain ⟨fuel,rfl⟩:=Zs fuel (by omega)
  rw [List.drop_eq_nil_of_le (by omega)]
  refine ⟨H,?_,hp⟩
  simp (disch:=omega) only [spec_MasksCount.l0,spec_MasksCount.j1,dt,df,bt,bf,nt,nf,Za,Zy,Zx,Zt,Zf,Zn,Zz,Zi,Zo,wr,AV.toB,AV.toI,AV.toS,if_true,total,Nat.add_zero]
 | succ j ih=>
  intro i fuel H r hi hf hp hr
  obtain ⟨fuel,rfl⟩:=Zs fuel (by omega)
  have hi2:i < l.length:=by omega
  obtain ⟨u,H1,a1,a2,a3⟩:=MaskValues_ok hk (l.getD i 0) H
  have hul:=(own_reads a3).len
  have h4:=cntM_le (l.getD i 0)
  have hul':(u.len:Int)=(cntM (l.getD i 0):Int):=by rw [hul]; rfl
  obtain ⟨H',b1,b2⟩:=ih (i + 1) fuel H1 (r + cntM (l.getD i 0)) (by omega) (by omega) (hp.trans a2) (by omega)
  push_cast at b1
  refine ⟨H',?_,b2⟩
  rw [total_drop hi2]
  simp (disch:=omega) only [spec_MasksCount.l0,dt,df,bt,bf,nt,nf,Za,Zy,Zx,Zt,Zf,Zn,Zz,Zi,Zo,wr,AV.toB,AV.toI,AV.toS,if_true,rdn (pf_reads hp hm),a1,hul',wr (n:=(r:Int) + (cntM (l.getD i 0):Int)),b1]
  congr 4
  omega
theorem specMasksCount_ok {k:Nat} (hk:2000010 ≤ k) {H:Hp} {ms:Sl} {l:List Int} {n:Int} (hb:-1 ≤ n∧n ≤ 5) (hm:Reads .i64 H ms l) (hl:l.length ≤ 1000) :
  ∃ H',callF PP orc k spec_MasksCount.id [.sl 1 ms,.int .i64 n] H=some (.int .i64 (massV n l),H')∧H <+: H':=by
 obtain ⟨k,rfl⟩:=Zs k (by omega)
 rw [spec_MasksCount.call]
 have h1:=specMasksValid_any (show 2000000 ≤ k by omega) hb hm hl
 unfold massV
 cases e1:masksOk n l with
 | false=>
  rw [e1] at h1
  exact ⟨H,by simp only [spec_MasksCount.f,dt,df,bt,bf,nt,nf,Za,Zy,Zx,Zt,Zf,Zn,Zz,Zi,Zo,wr,AV.toB,AV.toI,AV.toS,if_true,h1,Bool.false_eq_true,if_false],(List.prefix_refl _)⟩
 | true=>
  rw [e1] at h1
  obtain ⟨H',b1,b2⟩:=specCount_l0 (show 2000000 ≤ k by omega) hm hl l.length 0 k H 0 (by omega) (by omega) (List.prefix_refl _) (by omega)
  rw [List.drop_zero,Nat.zero_add] at b1
  refine ⟨H',?_,b2⟩
  simp only [Int.natCast_zero] at b1
  simp only [spec_MasksCount.f,dt,df,bt,bf,nt,nf,Za,Zy,Zx,Zt,Zf,Zn,Zz,Zi,Zo,wr,AV.toB,AV.toI,AV.toS,if_true,h1,b1]
theorem implCount_l0 {k:Nat} (hk:2000000 ≤ k) {H:Hp} {ms:Sl} {l:List Int} {n:Int} (hm:Reads .i64 H ms l) (hv:masksOk n l=true) :
  ∀ (j i fuel:Nat) (r:Nat),i + j=l.length→j < fuel→r ≤ 4 * i→impl_MasksCount.l0 (callF PP orc k) k fuel (r:Int) ms (l.length:Int) i H=some (.int .i64 ((r + total (l.drop i):Nat):Int),H):=by
 have hml:=hm.len
 have hl:=masks_len hv
 intro j
 induction j with
 | zero=>
  intro i fuel r hi hf hr
  obtain ⟨fuel,rfl⟩:=Zs fuel (by omega)
  rw [List.drop_eq_nil_of_le (by omega)]
  simp (disch:=omega) only [impl_MasksCount.l0,impl_MasksCount.j1,dt,df,bt,bf,nt,nf,Za,Zy,Zx,Zt,Zf,Zn,Zz,Zi,Zo,wr,AV.toB,AV.toI,AV.toS,if_true,total,Nat.add_zero]
 | succ j ih=>
  intro i fuel r hi hf hr
  obtain ⟨fuel,rfl⟩:=Zs fuel (by omega)
  have hi2:i < l.length:=by omega
  have h1:=OnesCount_ok (show 2 ≤ k by omega) (masks_at hv hi2) H
  have h4:=cntM_le (l.getD i 0)
  have b1:=ih (i + 1) fuel (r + cntM (l.getD i 0)) (by omega) (by omega) (by omega)
  push_cast at b1
  rw [total_drop hi2]
  simp (disch:=omega) only [impl_MasksCount.l0,dt,df,bt,bf,nt,nf,Za,Zy,Zx,Zt,Zf,Zn,Zz,Zi,Zo,wr,AV.toB,AV.toI,AV.toS,if_true,rdn hm,h1,wr (n:=(r:Int) + (cntM (l.getD i 0):Int)),b1]
  congr 4
  omega
theorem implMasksCount_ok {k:Nat} (hk:2000010 ≤ k) {H:Hp} {ms:Sl} {l:List Int} {n:Int} (hb:-1 ≤ n∧n ≤ 5) (hm:Reads .i64 H ms l) (hl:l.length ≤ 1000) (hr:∀ m ∈ l,-2 ≤ m∧m ≤ 63) :
  callF PP orc k impl_MasksCount.id [.sl 1 ms,.int .i64 n] H=some (.int .i64 (massV n l),H):=by
 obtain ⟨k,rfl⟩:=Zs k (by omega)
 rw [impl_MasksCount.call]
 have h1:=implMasksValid_ok (show 2000000 ≤ k by omega) hb hm hl hr
 have hml:=hm.len
 unfold massV
 cases e1:masksOk n l with
 | false=>
  rw [e1] at h1
  simp only [impl_MasksCount.f,dt,df,bt,bf,nt,nf,Za,Zy,Zx,Zt,Zf,Zn,Zz,Zi,Zo,wr,AV.toB,AV.toI,AV.toS,if_true,h1,Bool.false_eq_true,if_false]
 | true=>
  rw [e1] at h1
  have b1:=implCount_l0 (show 2000000 ≤ k by omega) hm e1 l.length 0 k 0 (by omega) (by omega) (by omega)
  rw [List.drop_zero,Nat.zero_add] at b1
  simp only [Int.natCast_zero] at b1
  simp only [impl_MasksCount.f,dt,df,bt,bf,nt,nf,Za,Zy,Zx,Zt,Zf,Zn,Zz,Zi,Zo,wr,AV.toB,AV.toI,AV.toS,if_true,h1,hml,b1]
/-! ### The grid of masks -/
def gridM (n:Int) (l:List Int):List Int:=if masksOk n l=true then l.map oneOf else []
theorem implGrid_l0 {k:Nat} (hk:2000000 ≤ k) {H0:Hp} {ms t:Sl} {l:List Int} {n:Int} (hm:Reads .i64 H0 ms l) (hv:masksOk n l=true) :
  ∀ (j i fuel:Nat) (H:Hp),i + j=l.length→j < fuel→H0 <+: H→Own 1 H0 H t (((l.take i).map oneOf ++ List.replicate j 0).map (.int .i64)) →
   ∃ H',impl_MasksGrid.l0 (callF PP orc k) k fuel t ms (l.length:Int) i H=some (.sl 1 t,H')∧H0 <+: H'∧Own 1 H0 H' t ((l.map oneOf).map (.int .i64)):=by
 have hml:=hm.len
 have hl:=masks_len hv
 intro j
 induction j with
 | zero=>
  intro i fuel H hi hf hp ho
  obtain ⟨fuel,rfl⟩:=Zs fuel (by omega)
  refine ⟨H,?_,hp,?_⟩
  ·simp (disch:=omega) only [impl_MasksGrid.l0,impl_MasksGrid.j1,dt,df,bt,bf,nt,nf,Za,Zy,Zx,Zt,Zf,Zn,Zz,Zi,Zo,wr,AV.toB,AV.toI,AV.toS,if_true]
  ·rw [List.take_of_length_le (by omega)] at ho
   simpa using ho
 | succ j ih=>
  intro i fuel H hi hf hp ho
  obtain ⟨fuel,rfl⟩:=Zs fuel (by omega)
  have hi2:i < l.length:=by omega
  have htl:t.len=l.length:=by have:=(own_reads ho).len; simp at this; omega
  have h1:=onlyValue_ok hk (masks_at hv hi2) H
  obtain ⟨H1,a1,a2,a3,a4⟩:=own_set1 ho hp i (by simp; omega) (oneOf (l.getD i 0))
  have e:((l.take i).map oneOf ++ List.replicate (j + 1) 0).set i (oneOf (l.getD i 0))=(l.take (i + 1)).map oneOf ++ List.replicate j 0:=by
   rw [List.set_append_right _ _ (by simp; omega),List.take_succ_eq_append_getElem hi2,List.map_append,List.append_assoc,List.getD_eq_getElem?_getD,List.getElem?_eq_getElem hi2]
   simp [show min i l.length=i by omega,List.replicate_succ]
  rw [e] at a3
  obtain ⟨H',b1,b2,b3⟩:=ih (i + 1) fuel H1 (by omega) (by omega) a2 a3
  push_cast at b1
  refine ⟨H',?_,b2,b3⟩
  simp (disch:=omega) only [impl_MasksGrid.l0,dt,df,bt,bf,nt,nf,Za,Zy,Zx,Zt,Zf,Zn,Zz,Zi,Zo,wr,AV.toB,AV.toI,AV.toS,if_true,rdn (pf_reads hp hm),h1,a1,b1]
theorem implMasksGrid_ok {k:Nat} (hk:2000010 ≤ k) {H:Hp} {ms:Sl} {l:List Int} {n:Int} (hb:-1 ≤ n∧n ≤ 5) (hm:Reads .i64 H ms l) (hl:l.length ≤ 1000) (hr:∀ m ∈ l,-2 ≤ m∧m ≤ 63) :
  ∃ t H',callF PP orc k impl_MasksGrid.id [.sl 1 ms,.int .i64 n] H=some (.sl 1 t,H')∧H <+: H'∧NilOr H H' t (gridM n l):=by
 obtain ⟨k,rfl⟩:=Zs k (by omega)
 rw [impl_MasksGrid.call]
 have h1:=implMasksValid_ok (show 2000000 ≤ k by omega) hb hm hl hr
 have hml:=hm.len
 unfold gridM
 cases e1:masksOk n l with
 | false=>
  rw [e1] at h1
  rw [iN (by simp)]
  exact ⟨Sl.none,H,by simp only [impl_MasksGrid.f,dt,df,bt,bf,nt,nf,Za,Zy,Zx,Zt,Zf,Zn,Zz,Zi,Zo,wr,AV.toB,AV.toI,AV.toS,if_true,h1],(List.prefix_refl _),.inl ⟨rfl,rfl⟩⟩
 | true=>
  rw [e1] at h1
  rw [ip rfl]
  have hnew:=own_new 1 H ((List.replicate l.length (0:Int)).map (.int .i64)) l.length (by simp)
  obtain ⟨H',b1,b2,b3⟩:=implGrid_l0 (show 2000000 ≤ k by omega) hm e1 l.length 0 k (H ++ [some (Blk.mk false ((List.replicate l.length (0:Int)).map (.int .i64)))]) (by omega) (by omega) (List.prefix_append _ _) (by rw [List.take_zero,List.map_nil,List.nil_append]; exact hnew)
  refine ⟨_,H',?_,b2,.inr b3⟩
  simp only [Int.natCast_zero] at b1
  simp only [impl_MasksGrid.f,dt,df,bt,bf,nt,nf,Za,Zy,Zx,Zt,Zf,Zn,Zz,Zi,Zo,wr,AV.toB,AV.toI,AV.toS,if_true,h1,hml,flat0s]
  rw [ip (by omega),b1]
theorem l6Copy_ok {k:Nat} (hk:1 ≤ k) {H:Hp} {s:Sl} {l:List Int} (hs:Reads .i64 H s l) (hl:l.length ≤ 1000) :
  callF PP orc k spec_l6Copy.id [.sl 1 s] H=some (.sl 1 (Sl.mk false H.length 0 l.length),H ++ [some (Blk.mk false (l.map (.int .i64)))]):=by
 obtain ⟨k,rfl⟩:=Zs k (by omega)
 rw [spec_l6Copy.call]
 simp only [spec_l6Copy.f,read_ok hs,hs.len,appl_ok _ _ _ (show l.length ≤ 1000000 by omega),Zo,cells_ok,Za,Zt]
theorem Start_l0 {k:Nat} (hk:2000003 ≤ k) {H0:Hp} {n:Int} {gs s:Sl} {given:List Int} {rs:List R} (hz:PuzAt H0 n gs s given rs) (hv:puzzleV n given (rs.map R.val)=true) :
  ∀ (j i fuel:Nat) (H:Hp) (t:Sl),i + j=given.length→j < fuel→H0 <+: H→Own 1 H0 H t ((openOf n (given.take i)).map (.int .i64)) →
   ∃ t' H',spec_StartMasks.l0 (callF PP orc k) k fuel t i n gs s H=some (.sl 1 t',H')∧H0 <+: H'∧Own 1 H0 H' t' ((openOf n given).map (.int .i64)):=by
 have hg:=(puzzleV_iff hv).1
 obtain ⟨hn,g2,g3⟩:=(gridOk_iff given n).1 hg
 have h16:=gridOk_len hg
 have hgl:=hz.rg.len
 obtain ⟨p1,p2,p3⟩:=topMask_pw hn
 intro j
 induction j with
 | zero=>
  intro i fuel H t hi hf hp ho
  obtain ⟨fuel,rfl⟩:=Zs fuel (by omega)
  refine ⟨t,H,?_,hp,by rw [List.take_of_length_le (by omega)] at ho; exact ho⟩
  simp (disch:=omega) only [spec_StartMasks.l0,spec_StartMasks.j1,spec_StartMasks.j3,dt,df,bt,bf,nt,nf,Za,Zy,Zx,Zt,Zf,Zn,Zz,Zi,Zo,wr,AV.toB,AV.toI,AV.toS,if_true]
 | succ j ih=>
  intro i fuel H t hi hf hp ho
  obtain ⟨fuel,rfl⟩:=Zs fuel (by omega)
  have hi2:i < given.length:=by omega
  obtain ⟨v0,v1⟩:=g3 _ (mem_getD hi2)
  have hzH:=hz.pf hp
  have h1:=specPuzzleValid_ok (show 2000003 ≤ k by omega) hzH.n4 hzH.rg hzH.gl hzH.rr hzH.rl hzH.rc
  rw [puzzle_map,hv] at h1
  have htl:t.len=i:=by have:=ho.len; simp [openOf] at this; omega
  have htk:openOf n (given.take (i + 1))=openOf n (given.take i) ++ [if given.getD i 0 > 0 then pw (given.getD i 0) else topMask n]:=by
   rw [List.take_succ_eq_append_getElem hi2]; unfold openOf
   rw [List.map_append,List.getD_eq_getElem?_getD,List.getElem?_eq_getElem hi2]; rfl
  obtain ⟨H1,a1,a2,a3,a4,a5⟩:=own_app1 ho hp (if given.getD i 0 > 0 then pw (given.getD i 0) else topMask n) (by omega)
  rw [← htk] at a3
  obtain ⟨t',H',b1,b2,b3⟩:=ih (i + 1) fuel H1 _ (by omega) (by omega) a2 a3
  push_cast at b1
  refine ⟨t',H',?_,b2,b3⟩
  by_cases c:given.getD i 0 > 0
  ·rw [ip c] at a1
   simp (disch:=omega) only [spec_StartMasks.l0,spec_StartMasks.j1,spec_StartMasks.j2,spec_StartMasks.j4,dt,df,bt,bf,nt,nf,Za,Zy,Zx,Zt,Zf,Zn,Zz,Zi,Zo,wr,AV.toB,AV.toI,AV.toS,if_true,h1,rdn hzH.rg,iN,m_shl v0,a1,b1]
  ·rw [iN c] at a1
   simp (disch:=omega) only [spec_StartMasks.l0,spec_StartMasks.j1,spec_StartMasks.j2,spec_StartMasks.j4,dt,df,bt,bf,nt,nf,Za,Zy,Zx,Zt,Zf,Zn,Zz,Zi,Zo,wr,AV.toB,AV.toI,AV.toS,if_true,h1,rdn hzH.rg,iN,m_shl (v:=n + 1),p1,a1,b1]
theorem specStartMasks_ok {k:Nat} (hk:2000010 ≤ k) {H:Hp} {n:Int} {gs s:Sl} {given:List Int} {rs:List R} (hz:PuzAt H n gs s given rs) :
  ∃ t H',callF PP orc k spec_StartMasks.id [.agg [.int .i64 n,.sl 1 gs,.sl 3 s]] H=some (.sl 1 t,H')∧H <+: H'∧Own 1 H H' t ((startV n given (rs.map R.val)).map (.int .i64)):=by
 obtain ⟨k,rfl⟩:=Zs k (by omega)
 rw [spec_StartMasks.call]
 have hgl:=hz.rg.len
 have hgz:=hz.gl
 unfold startV
 cases hv:puzzleV n given (rs.map R.val) with
 | true=>
  rw [ip rfl]
  obtain ⟨t',H',b1,b2,b3⟩:=Start_l0 (show 2000003 ≤ k by omega) hz hv given.length 0 k (H ++ [some (Blk.mk false [])]) (Sl.mk false H.length 0 0) (by omega) (by omega) (List.prefix_append _ _) (own_new 1 H [] 0 rfl)
  exact ⟨t',H',b1,b2,b3⟩
 | false=>
  rw [iN (by simp)]
  refine ⟨Sl.mk false H.length 0 0,H ++ [some (Blk.mk false [])],?_,(List.prefix_append _ _),own_new 1 H [] 0 rfl⟩
  have hzH:=hz.pf (List.prefix_append H [some (Blk.mk false [])])
  have h1:=specPuzzleValid_ok (show 2000003 ≤ k by omega) hzH.n4 hzH.rg hzH.gl hzH.rr hzH.rl hzH.rc
  rw [puzzle_map,hv] at h1
  have hf:spec_StartMasks.f (callF PP orc k) k n gs s H=spec_StartMasks.l0 (callF PP orc k) k k (Sl.mk false H.length 0 0) 0 n gs s (H ++ [some (Blk.mk false [])]):=rfl
  rw [hf]
  generalize callF PP orc k=rc at *
  obtain ⟨q,hq⟩:∃ q,k=q + 1:=⟨k - 1,by omega⟩
  rw [hq]
  by_cases c:0 < given.length
  ·simp (disch:=omega) only [spec_StartMasks.l0,spec_StartMasks.j1,spec_StartMasks.j3,dt,df,bt,bf,nt,nf,Za,Zy,Zx,Zt,Zf,Zn,Zz,Zi,Zo,wr,AV.toB,AV.toI,AV.toS,if_true,h1]
  ·simp (disch:=omega) only [spec_StartMasks.l0,spec_StartMasks.j1,spec_StartMasks.j3,dt,df,bt,bf,nt,nf,Za,Zy,Zx,Zt,Zf,Zn,Zz,Zi,Zo,wr,AV.toB,AV.toI,AV.toS,if_true]
theorem tdivN (a b:Nat):((a:Int)).tdiv (b:Int)=((a / b:Nat):Int):=rfl
theorem tmodN (a b:Nat):((a:Int)).tmod (b:Int)=((a % b:Nat):Int):=rfl
theorem wdiv {a:Nat} (N:Nat) (h:a ≤ 1000):IntKind.i64.wrap ((a / N:Nat):Int)=((a / N:Nat):Int):=by
 have:=Nat.div_le_self a N
 generalize a / N=z at *
 exact wr (by omega) (by omega)
theorem ncb {a b:Nat}:(((a:Nat):Int) == ((b:Nat):Int))=(a == b):=by rw [Bool.eq_iff_iff]; simp; omega
theorem Singles_l2 (rec:Rec) (k:Nat) (L0:Sl→Int→Sl→Int→Hp→An) {H0:Hp} {ms t:Sl} {l:List Int} {N:Nat} (hN:0 < N) (hm:Reads .i64 H0 ms l) (hl:l.length ≤ 100) {i:Nat} (hi:i < l.length) (hM:Ms l) :
  ∀ (j q fuel:Nat) (H:Hp) (a:List Int) (P:Nat→Nat→Prop),q + j=l.length→j < fuel→H0 <+: H→Own 1 H0 H t (a.map (.int .i64))→Sub l a P →
   ∃ H' a',spec_NarrowSingles.l2 rec k L0 fuel ms (N:Int) t i q H=L0 ms (N:Int) t ((i:Int) + 1) H'∧H0 <+: H'∧Own 1 H0 H' t (a'.map (.int .i64))∧Sub l a' (fun x v=>P x v ∨ (q ≤ x∧peer N x i∧Rp.has (l.getD i 0) v=true)):=by
 have hml:=hm.len
 have hiM:=hM.at i
 intro j
 induction j with
 | zero=>
  intro q fuel H a P hq hf hp ho hs
  obtain ⟨fuel,rfl⟩:=Zs fuel (by omega)
  refine ⟨H,a,?_,hp,ho,hs.congr fun x v hx=>⟨.inl,by rintro (h | ⟨h,_⟩); exact h; omega⟩⟩
  simp (disch:=omega) only [spec_NarrowSingles.l2,spec_NarrowSingles.j1,dt,df,bt,bf,nt,nf,Za,Zy,Zx,Zt,Zf,Zn,Zz,Zi,Zo,wr,AV.toB,AV.toI,AV.toS,if_true]
 | succ j ih=>
  intro q fuel H a P hq hf hp ho hs
  obtain ⟨fuel,rfl⟩:=Zs fuel (by omega)
  have hal:=hs.len
  have htl:t.len=a.length:=by have:=ho.len; simpa using this
  have hq2:q < l.length:=by omega
  have hrd:=pf_reads hp hm
  have d1:=Nat.div_le_self q N
  have d2:=Nat.div_le_self i N
  have go:∀ c:Bool,(c=true ↔ peer N q i)→∃ H' a',spec_NarrowSingles.j4 rec k L0 (spec_NarrowSingles.l2 rec k L0 fuel) ms (N:Int) t i q c H=L0 ms (N:Int) t ((i:Int) + 1) H'∧H0 <+: H'∧Own 1 H0 H' t (a'.map (.int .i64))∧Sub l a' (fun x v=>P x v ∨ (q ≤ x∧peer N x i∧Rp.has (l.getD i 0) v=true)):=by
   intro c hc
   cases c with
   | true=>
    have hpq:=hc.1 rfl
    obtain ⟨H1,a1,a2,a3,a4⟩:=own_set1 ho hp q (by omega) (mSub (a.getD q 0) (l.getD i 0))
    obtain ⟨H',a',b1,b2,b3,b4⟩:=ih (q + 1) fuel H1 _ _ (by omega) (by omega) a2 a3 (hs.step q hq2 hiM)
    push_cast at b1
    refine ⟨H',a',?_,b2,b3,b4.congr fun x v hx=>?_⟩
    ·simp (disch:=omega) only [spec_NarrowSingles.j4,spec_NarrowSingles.j5,dt,df,bt,bf,nt,nf,Za,Zy,Zx,Zt,Zf,Zn,Zz,Zi,Zo,wr,AV.toB,AV.toI,AV.toS,if_true,rdn (own_reads ho),rdn hrd,m_sub (hs.ms.at q) hiM,a1,b1]
    ·constructor
     ·rintro ((h | ⟨h1,h2⟩) | ⟨h1,h2⟩)
      ·exact .inl h
      ·subst h1; exact .inr ⟨Nat.le_refl _,hpq,h2⟩
      ·exact .inr ⟨by omega,h2⟩
     ·rintro (h | ⟨h1,h2,h3⟩)
      ·exact .inl (.inl h)
      ·by_cases e:x=q
       ·exact .inl (.inr ⟨e,h3⟩)
       ·exact .inr ⟨by omega,h2,h3⟩
   | false=>
    have hpq:¬ peer N q i:=fun h=>by have:=hc.2 h; cases this
    obtain ⟨H',a',b1,b2,b3,b4⟩:=ih (q + 1) fuel H a P (by omega) (by omega) hp ho hs
    push_cast at b1
    refine ⟨H',a',?_,b2,b3,b4.congr fun x v hx=>?_⟩
    ·simp (disch:=omega) only [spec_NarrowSingles.j4,spec_NarrowSingles.j5,dt,df,bt,bf,nt,nf,Za,Zy,Zx,Zt,Zf,Zn,Zz,Zi,Zo,wr,AV.toB,AV.toI,AV.toS,if_true,b1]
    ·constructor
     ·rintro (h | ⟨h1,h2⟩)
      ·exact .inl h
      ·exact .inr ⟨by omega,h2⟩
     ·rintro (h | ⟨h1,h2,h3⟩)
      ·exact .inl h
      ·refine .inr ⟨?_,h2,h3⟩
       by_cases e:x=q
       ·subst e; exact absurd h2 hpq
       ·omega
  by_cases e:q=i
  ·obtain ⟨H',a',b1,b2⟩:=go false ⟨fun h=>(by cases h),fun h=>absurd e h.1⟩
   refine ⟨H',a',?_,b2⟩
   rw [← b1]
   simp (disch:=omega) only [spec_NarrowSingles.l2,dt,df,bt,bf,nt,nf,Za,Zy,Zx,Zt,Zf,Zn,Zz,Zi,Zo,wr,AV.toB,AV.toI,AV.toS,if_true]
  ·by_cases e1:q / N=i / N
   ·obtain ⟨H',a',b1,b2⟩:=go true ⟨fun _=>⟨e,.inl e1⟩,fun _=>rfl⟩
    refine ⟨H',a',?_,b2⟩
    rw [← b1]
    have hb:(q / N == i / N)=true:=by simpa using e1
    simp (disch:=omega) only [spec_NarrowSingles.l2,dt,nt,Zt,iN,tdivN,wdiv,ncb,hb]
   ·obtain ⟨H',a',b1,b2⟩:=go (((q:Int)).tmod (N:Int) == ((i:Int)).tmod (N:Int)) (by
     rw [tmodN,tmodN,beq_iff_eq]
     constructor
     ·intro h; exact ⟨e,.inr (by omega)⟩
     ·rintro ⟨_,h | h⟩
      ·exact absurd h e1
      ·omega)
    refine ⟨H',a',?_,b2⟩
    rw [← b1]
    have hb:(q / N == i / N)=false:=by simpa using e1
    simp (disch:=omega) only [spec_NarrowSingles.l2,dt,nt,Zt,Zf,iN,tdivN,wdiv,ncb,hb]
theorem Singles_l0 {k:Nat} (hk:2000000 ≤ k) {H0:Hp} {ms t:Sl} {l:List Int} {N:Nat} (hN:0 < N) (hm:Reads .i64 H0 ms l) (hl:l.length ≤ 100) (hM:Ms l) :
  ∀ (j i fuel:Nat) (H:Hp) (a:List Int) (P:Nat→Nat→Prop),i + j=l.length→j < fuel→H0 <+: H→Own 1 H0 H t (a.map (.int .i64))→Sub l a P →
   ∃ H' a',spec_NarrowSingles.l0 (callF PP orc k) k fuel ms (N:Int) t i H=some (.sl 1 t,H')∧H0 <+: H'∧Own 1 H0 H' t (a'.map (.int .i64))∧Sub l a' (fun x v=>P x v ∨ ∃ q,i ≤ q∧q < l.length∧peer N x q∧single (l.getD q 0)=true∧Rp.has (l.getD q 0) v=true):=by
 have hml:=hm.len
 intro j
 induction j with
 | zero=>
  intro i fuel H a P hi hf hp ho hs
  obtain ⟨fuel,rfl⟩:=Zs fuel (by omega)
  refine ⟨H,a,?_,hp,ho,hs.congr fun x v hx=>⟨.inl,by rintro (h | ⟨q,h1,h2,_⟩); exact h; omega⟩⟩
  simp (disch:=omega) only [spec_NarrowSingles.l0,spec_NarrowSingles.j3,dt,df,bt,bf,nt,nf,Za,Zy,Zx,Zt,Zf,Zn,Zz,Zi,Zo,wr,AV.toB,AV.toI,AV.toS,if_true]
 | succ j ih=>
  intro i fuel H a P hi hf hp ho hs
  obtain ⟨fuel,rfl⟩:=Zs fuel (by omega)
  have hi2:i < l.length:=by omega
  have hrd:=pf_reads hp hm
  obtain ⟨u,H1,a1,a2,a3⟩:=MaskValues_ok hk (l.getD i 0) H
  have hul:=(own_reads a3).len
  by_cases c:(maskVals (l.getD i 0)).length=1
  ·obtain ⟨H2,a',b1,b2,b3,b4⟩:=Singles_l2 (callF PP orc k) k (spec_NarrowSingles.l0 (callF PP orc k) k fuel) hN hm hl hi2 hM l.length 0 k H1 a P (by omega) (by omega) (hp.trans a2) (own_pf ho a2) hs
   obtain ⟨H',a'',d1,d2,d3,d4⟩:=ih (i + 1) fuel H2 a' _ (by omega) (by omega) b2 b3 b4
   push_cast at d1
   refine ⟨H',a'',?_,d2,d3,d4.congr fun x v hx=>?_⟩
   ·simp only [Int.natCast_zero] at b1
    simp (disch:=omega) only [spec_NarrowSingles.l0,dt,df,bt,bf,nt,nf,Za,Zy,Zx,Zt,Zf,Zn,Zz,Zi,Zo,wr,AV.toB,AV.toI,AV.toS,if_true,rdn hrd,a1,hul,b1,d1]
   ·have hs1:single (l.getD i 0)=true:=by unfold single; rw [c]; rfl
    constructor
    ·rintro ((h | ⟨_,h2,h3⟩) | ⟨q,h1,h2⟩)
     ·exact .inl h
     ·exact .inr ⟨i,Nat.le_refl _,hi2,h2,hs1,h3⟩
     ·exact .inr ⟨q,by omega,h2⟩
    ·rintro (h | ⟨q,h1,h2,h3,h4,h5⟩)
     ·exact .inl (.inl h)
     ·by_cases e:q=i
      ·subst e; exact .inl (.inr ⟨by omega,h3,h5⟩)
      ·exact .inr ⟨q,by omega,h2,h3,h4,h5⟩
  ·obtain ⟨H',a'',d1,d2,d3,d4⟩:=ih (i + 1) fuel H1 a P (by omega) (by omega) (hp.trans a2) (own_pf ho a2) hs
   push_cast at d1
   refine ⟨H',a'',?_,d2,d3,d4.congr fun x v hx=>?_⟩
   ·simp (disch:=omega) only [spec_NarrowSingles.l0,spec_NarrowSingles.j1,dt,df,bt,bf,nt,nf,Za,Zy,Zx,Zt,Zf,Zn,Zz,Zi,Zo,wr,AV.toB,AV.toI,AV.toS,if_true,rdn hrd,a1,hul,d1]
   ·have hs1:¬ single (l.getD i 0)=true:=by unfold single; rw [beq_iff_eq]; exact c
    constructor
    ·rintro (h | ⟨q,h1,h2⟩)
     ·exact .inl h
     ·exact .inr ⟨q,by omega,h2⟩
    ·rintro (h | ⟨q,h1,h2,h3,h4,h5⟩)
     ·exact .inl h
     ·refine .inr ⟨q,?_,h2,h3,h4,h5⟩
      by_cases e:q=i
      ·subst e; exact absurd h4 hs1
      ·omega
theorem specNarrowSingles_ok {k:Nat} (hk:2000010 ≤ k) {H:Hp} {ms:Sl} {l:List Int} {n:Int} (hb:-1 ≤ n∧n ≤ 5) (hm:Reads .i64 H ms l) (hl:l.length ≤ 1000) :
  ∃ t H',callF PP orc k spec_NarrowSingles.id [.sl 1 ms,.int .i64 n] H=some (.sl 1 t,H')∧H <+: H'∧Own 1 H H' t ((singlesV n l).map (.int .i64)):=by
 obtain ⟨k,rfl⟩:=Zs k (by omega)
 rw [spec_NarrowSingles.call]
 have h1:=specMasksValid_any (show 2000000 ≤ k by omega) hb hm hl
 unfold singlesV
 cases hv:masksOk n l with
 | false=>
  rw [hv] at h1
  rw [iN (by simp)]
  exact ⟨Sl.mk false H.length 0 0,H ++ [some (Blk.mk false [])],by simp only [spec_NarrowSingles.f,dt,df,bt,bf,nt,nf,Za,Zy,Zx,Zt,Zf,Zn,Zz,Zi,Zo,wr,AV.toB,AV.toI,AV.toS,if_true,h1],(List.prefix_append _ _),own_new 1 H [] 0 rfl⟩
 | true=>
  rw [hv] at h1
  rw [ip rfl]
  obtain ⟨l4,l16,lN,hN,n2,n4⟩:=masks_len hv
  have hM:=masks_M hv
  have h2:=l6Copy_ok (show 1 ≤ k by omega) hm hl
  have hnew:=own_new 1 H (l.map (.int .i64)) l.length (by simp)
  obtain ⟨H',a',b1,b2,b3,b4⟩:=Singles_l0 (show 2000000 ≤ k by omega) (N:=n.toNat) (by omega) hm (by omega) hM l.length 0 k (H ++ [some (Blk.mk false (l.map (.int .i64)))]) l _ (by omega) (by omega) (List.prefix_append _ _) hnew (Sub.refl hM)
  rw [← hN] at b1
  have e:a'=subAll l (PS n.toNat l):=(b4.congr fun x v hx=>(show _ ↔ PS n.toNat l x v from ⟨by rintro (h | ⟨q,_,h⟩); exact h.elim; exact ⟨q,h⟩,fun ⟨q,h⟩=>.inr ⟨q,by omega,h⟩⟩)).eq hM
  subst e
  refine ⟨_,H',?_,b2,b3⟩
  simp only [Int.natCast_zero] at b1
  simp only [spec_NarrowSingles.f,dt,df,bt,bf,nt,nf,Za,Zy,Zx,Zt,Zf,Zn,Zz,Zi,Zo,wr,AV.toB,AV.toI,AV.toS,if_true,h1,h2,b1]
theorem reads_from {k:IntKind} {H:Hp} {s:Sl} {l:List Int} (h:Reads k H s l) (m:Nat) (hm:m ≤ l.length):Reads k H (Sl.mk s.nil s.blk (s.off + m) (l.length - m)) (l.drop m):=by
 refine ⟨by simp,fun i hi=>?_⟩
 have hi2:m + i < l.length:=by simp at hi; omega
 have:=h.cell (m + i) hi2
 have e:(l.drop m)[i]=l[m + i]:=by simp
 rw [e,← this]
 show H.cell s.blk (s.off + m + i)=_
 rw [Nat.add_assoc]
theorem Hidden_l3 (rec:Rec) (k:Nat) (L0:Sl→Int→Sl→Int→Hp→An) (L1:Sl→Int→Sl→Int→Sl→Int→Hp→An) {H:Hp} {ms t cs:Sl} {l cells:List Int} {n line:Int} {v:Nat} (hm:Reads .i64 H ms l) (hc:Reads .i64 H cs cells) (hcl:cells.length ≤ 10) (hin:∀ c ∈ cells,0 ≤ c∧c.toNat < l.length∧c < (l.length:Int)) (hM:Ms l) (hv:1 ≤ v∧v ≤ 4) :
  ∀ (j q fuel:Nat) (many at':Int),q + j=cells.length→j < fuel→0 ≤ many→many ≤ q →
   ∃ at2,spec_NarrowHidden.l3 rec k L0 L1 fuel ms n t line cs v many at' q H=spec_NarrowHidden.j6 rec k L0 L1 ms n t line cs v (many + ((cells.drop q).filter fun c=>has (l.getD c.toNat 0) v).length) at2 H∧(∀ c,many=0→(cells.drop q).filter (fun c=>has (l.getD c.toNat 0) v)=[c]→at2=c)∧((cells.drop q).filter (fun c=>has (l.getD c.toNat 0) v)=[]→at2=at'):=by
 have hml:=hm.len
 have hcs:=hc.len
 intro j
 induction j with
 | zero=>
  intro q fuel many at' hq hf h0 h1
  obtain ⟨fuel,rfl⟩:=Zs fuel (by omega)
  rw [List.drop_eq_nil_of_le (by omega)]
  refine ⟨at',?_,fun c _ h=>(by cases h),fun _=>rfl⟩
  simp (disch:=omega) only [spec_NarrowHidden.l3,dt,df,bt,bf,nt,nf,Za,Zy,Zx,Zt,Zf,Zn,Zz,Zi,Zo,wr,AV.toB,AV.toI,AV.toS,if_true,List.filter_nil,Zm,Int.natCast_zero,Int.add_zero]
 | succ j ih=>
  intro q fuel many at' hq hf h0 h1
  obtain ⟨fuel,rfl⟩:=Zs fuel (by omega)
  have hq2:q < cells.length:=by omega
  obtain ⟨c0,c1,c2⟩:=hin _ (mem_getD hq2)
  have hd:cells.drop q=cells.getD q 0 :: cells.drop (q + 1):=by
   rw [List.drop_eq_getElem_cons hq2,List.getD_eq_getElem?_getD,List.getElem?_eq_getElem hq2]; rfl
  rw [hd,List.filter_cons]
  have hb:=m_bit (v:=(v:Int)) (hM.at (cells.getD q 0).toNat) (by omega) (by omega)
  rw [Int.toNat_natCast] at hb
  cases hh:has (l.getD (cells.getD q 0).toNat 0) v with
  | true=>
   rw [hh] at hb
   obtain ⟨at2,a1,a2,a3⟩:=ih (q + 1) fuel (many + 1) (cells.getD q 0) (by omega) (by omega) (by omega) (by omega)
   push_cast at a1
   rw [if_pos rfl,List.length_cons]
   refine ⟨at2,?_,fun c hm0 he=>?_,fun h=>by cases h⟩
   ·push_cast
    rw [show many + ((((cells.drop (q + 1)).filter fun c=>has (l.getD c.toNat 0) v).length:Int) + 1)=many + 1 + (((cells.drop (q + 1)).filter fun c=>has (l.getD c.toNat 0) v).length:Int) by omega,← a1]
    simp (disch:=omega) only [spec_NarrowHidden.l3,spec_NarrowHidden.j5,dt,df,Za,Zt,Zn,Zo,rdn hc,rdn hm,iN,hb,wr]
   ·rw [List.cons.injEq] at he
    rw [a3 he.2]; exact he.1
  | false=>
   rw [hh] at hb
   obtain ⟨at2,a1,a2,a3⟩:=ih (q + 1) fuel many at' (by omega) (by omega) h0 (by omega)
   push_cast at a1
   rw [if_neg (by simp)]
   refine ⟨at2,?_,a2,a3⟩
   rw [← a1]
   simp (disch:=omega) only [spec_NarrowHidden.l3,spec_NarrowHidden.j5,dt,df,Za,Zt,Zf,Zn,Zo,rdn hc,rdn hm,iN,hb,wr]
theorem Hidden_l1 (rec:Rec) (k:Nat) (hk:100 ≤ k) (L0:Sl→Int→Sl→Int→Hp→An) {H0:Hp} {ms t cs:Sl} {l:List Int} {n:Int} {line:Nat} (hmk:masksOk n l=true) (hm:Reads .i64 H0 ms l) (hline:(line:Int) < 2 * n) (hcb:cs.blk ≠ t.blk) :
  ∀ (j v fuel:Nat) (H:Hp) (a:List Int) (P:Nat→Nat→Prop),(v:Int) + j=n + 1→1 ≤ v→j < fuel→H0 <+: H→Reads .i64 H cs (lineCells n line)→Own 1 H0 H t (a.map (.int .i64))→Sub l a P →
   ∃ H' a',spec_NarrowHidden.l1 rec k L0 fuel ms n t line cs v H=L0 ms n t ((line:Int) + 1) H'∧H0 <+: H'∧Own 1 H0 H' t (a'.map (.int .i64))∧Sub l a' (fun x w=>P x w ∨ ∃ u:Nat,v ≤ u∧(u:Int) ≤ n∧lineHas n l line u=[(x:Int)]∧w ≠ u):=by
 obtain ⟨l4,l16,lN,hN,n2,n4⟩:=masks_len hmk
 have hM:=masks_M hmk
 have hlc:=lineCells_len n line
 intro j
 induction j with
 | zero=>
  intro v fuel H a P hv hv1 hf hp hc ho hs
  obtain ⟨fuel,rfl⟩:=Zs fuel (by omega)
  refine ⟨H,a,?_,hp,ho,hs.congr fun x w hx=>⟨.inl,by rintro (h | ⟨u,h1,h2,_⟩); exact h; omega⟩⟩
  simp (disch:=omega) only [spec_NarrowHidden.l1,spec_NarrowHidden.j4,dt,df,bt,bf,nt,nf,Za,Zy,Zx,Zt,Zf,Zn,Zz,Zi,Zo,wr,AV.toB,AV.toI,AV.toS,if_true]
 | succ j ih=>
  intro v fuel H a P hv hv1 hf hp hc ho hs
  obtain ⟨fuel,rfl⟩:=Zs fuel (by omega)
  have hal:=hs.len
  have htl:t.len=a.length:=by have:=ho.len; simpa using this
  obtain ⟨at2,b1,b2,b3⟩:=Hidden_l3 rec k L0 (spec_NarrowHidden.l1 rec k L0 fuel) (t:=t) (n:=n) (line:=(line:Int)) (pf_reads hp hm) hc (by omega) (fun c h=>line_in hmk h) hM (v:=v) ⟨hv1,by omega⟩ (lineCells n line).length 0 k 0 0 (by omega) (by omega) (by omega) (by omega)
  simp only [List.drop_zero,Int.natCast_zero,Int.zero_add] at b1 b2
  have hlh:(lineCells n line).filter (fun c=>has (l.getD c.toNat 0) v)=lineHas n l line v:=rfl
  rw [hlh] at b1 b2
  by_cases c:(lineHas n l line v).length=1
  ·obtain ⟨x0,hx0⟩:=List.length_eq_one_iff.1 c
   have hat:=b2 x0 (by first | rfl | trivial) hx0
   have hxm:x0 ∈ lineCells n line:=(List.mem_filter.1 (show x0 ∈ lineHas n l line v by rw [hx0]; simp)).1
   obtain ⟨q0,q1,q2⟩:=line_in hmk hxm
   have hpm:M (pw (v:Int)):=M.pw (by omega) (by omega)
   have h31:M (mSub 31 (pw (v:Int))):=M.sub ⟨by decide,by decide⟩ hpm
   obtain ⟨H1,d1,d2,d3,d4⟩:=own_set1 ho hp x0.toNat (by omega) (mAnd (a.getD x0.toNat 0) (pw (v:Int)))
   have hs1:=hs.step x0.toNat q1 h31
   rw [← and_sub (hs.ms.at _) hpm] at hs1
   obtain ⟨H',a',e1,e2,e3,e4⟩:=ih (v + 1) fuel H1 _ _ (by omega) (by omega) (by omega) d2 (d4.reads hcb hc) d3 hs1
   push_cast at e1
   refine ⟨H',a',?_,e2,e3,e4.congr5 hM fun x w hx hw=>?_⟩
   ·rw [c] at b1
    subst hat
    simp only [Int.natCast_one] at b1
    simp (disch:=omega) only [spec_NarrowHidden.l1,dt,Zt,b1,spec_NarrowHidden.j6,bt,Za,Zo,rdn (own_reads ho),iN,m_shl (v:=(v:Int)),m_and (hs.ms.at _) hpm,d1,spec_NarrowHidden.j7,wr (n:=(v:Int) + 1),e1]
   ·have hnot:Rp.has (mSub 31 (pw (v:Int))) w=true ↔ w ≠ v:=by
     rcases has_all w hw (pw (v:Int)) with e | e
     ·rw [e,has_pw (by omega)]
      simp only [Bool.not_eq_true',decide_eq_false_iff_not]
      constructor <;> (intro h e; apply h; omega)
     ·exact absurd hpm e
    constructor
    ·rintro ((h | ⟨h1,h2⟩) | ⟨u,h1,h2⟩)
     ·exact .inl h
     ·subst h1
      exact .inr ⟨v,Nat.le_refl _,by omega,by rw [hx0]; congr 1; omega,hnot.1 h2⟩
     ·exact .inr ⟨u,by omega,h2⟩
    ·rintro (h | ⟨u,h1,h2,h3,h4⟩)
     ·exact .inl (.inl h)
     ·by_cases e:u=v
      ·subst e
       rw [hx0,List.cons.injEq] at h3
       exact .inl (.inr ⟨by omega,hnot.2 h4⟩)
      ·exact .inr ⟨u,by omega,h2,h3,h4⟩
  ·obtain ⟨H',a',e1,e2,e3,e4⟩:=ih (v + 1) fuel H a P (by omega) (by omega) (by omega) hp hc ho hs
   push_cast at e1
   refine ⟨H',a',?_,e2,e3,e4.congr fun x w hx=>?_⟩
   ·simp (disch:=omega) only [spec_NarrowHidden.l1,dt,Zt,b1,spec_NarrowHidden.j6,bf,Zf,spec_NarrowHidden.j7,wr (n:=(v:Int) + 1),e1]
   ·constructor
    ·rintro (h | ⟨u,h1,h2⟩)
     ·exact .inl h
     ·exact .inr ⟨u,by omega,h2⟩
    ·rintro (h | ⟨u,h1,h2,h3,h4⟩)
     ·exact .inl h
     ·refine .inr ⟨u,?_,h2,h3,h4⟩
      by_cases e:u=v
      ·subst e; rw [h3] at c; exact absurd rfl c
      ·omega
theorem Hidden_l0 {k:Nat} (hk:2000000 ≤ k) {H0:Hp} {ms t:Sl} {l:List Int} {n:Int} (hmk:masksOk n l=true) (hm:Reads .i64 H0 ms l) :
  ∀ (j line fuel:Nat) (H:Hp) (a:List Int) (P:Nat→Nat→Prop),(line:Int) + j=2 * n→j < fuel→H0 <+: H→Own 1 H0 H t (a.map (.int .i64))→Sub l a P →
   ∃ H' a',spec_NarrowHidden.l0 (callF PP orc k) k fuel ms n t line H=some (.sl 1 t,H')∧H0 <+: H'∧Own 1 H0 H' t (a'.map (.int .i64))∧Sub l a' (fun x w=>P x w ∨ ∃ ln u:Nat,line ≤ ln∧(ln:Int) < 2 * n∧1 ≤ u∧(u:Int) ≤ n∧lineHas n l ln u=[(x:Int)]∧w ≠ u):=by
 obtain ⟨l4,l16,lN,hN,n2,n4⟩:=masks_len hmk
 intro j
 induction j with
 | zero=>
  intro line fuel H a P hl hf hp ho hs
  obtain ⟨fuel,rfl⟩:=Zs fuel (by omega)
  refine ⟨H,a,?_,hp,ho,hs.congr fun x w hx=>⟨.inl,by rintro (h | ⟨ln,u,h1,h2,_⟩); exact h; omega⟩⟩
  simp (disch:=omega) only [spec_NarrowHidden.l0,spec_NarrowHidden.j2,dt,df,bt,bf,nt,nf,Za,Zy,Zx,Zt,Zf,Zn,Zz,Zi,Zo,wr,AV.toB,AV.toI,AV.toS,if_true]
 | succ j ih=>
  intro line fuel H a P hl hf hp ho hs
  obtain ⟨fuel,rfl⟩:=Zs fuel (by omega)
  obtain ⟨cs,H1,a1,a2,a3⟩:=specLineCells_own hk n (line:Int) H
  have hcb:cs.blk ≠ t.blk:=by have:=a3.blk; have:=own_lt' ho; omega
  obtain ⟨H2,a',b1,b2,b3,b4⟩:=Hidden_l1 (callF PP orc k) k (by omega) (spec_NarrowHidden.l0 (callF PP orc k) k fuel) hmk hm (by omega) hcb n.toNat 1 k H1 a P (by omega) (by omega) (by omega) (hp.trans a2) (own_reads a3) (own_pf ho a2) hs
  obtain ⟨H',a'',d1,d2,d3,d4⟩:=ih (line + 1) fuel H2 a' _ (by omega) (by omega) b2 b3 b4
  push_cast at d1
  refine ⟨H',a'',?_,d2,d3,d4.congr fun x w hx=>?_⟩
  ·simp only [Int.natCast_one] at b1
   simp (disch:=omega) only [spec_NarrowHidden.l0,dt,df,bt,bf,nt,nf,Za,Zy,Zx,Zt,Zf,Zn,Zz,Zi,Zo,wr,AV.toB,AV.toI,AV.toS,if_true,a1,b1,d1]
  ·constructor
   ·rintro ((h | ⟨u,h1,h2,h3,h4⟩) | ⟨ln,u,h1,h2⟩)
    ·exact .inl h
    ·exact .inr ⟨line,u,Nat.le_refl _,by omega,h1,h2,h3,h4⟩
    ·exact .inr ⟨ln,u,by omega,h2⟩
   ·rintro (h | ⟨ln,u,h1,h2,h3,h4,h5,h6⟩)
    ·exact .inl (.inl h)
    ·by_cases e:ln=line
     ·subst e; exact .inl (.inr ⟨u,h3,h4,h5,h6⟩)
     ·exact .inr ⟨ln,u,by omega,h2,h3,h4,h5,h6⟩
theorem specNarrowHidden_ok {k:Nat} (hk:2000010 ≤ k) {H:Hp} {ms:Sl} {l:List Int} {n:Int} (hb:-1 ≤ n∧n ≤ 5) (hm:Reads .i64 H ms l) (hl:l.length ≤ 1000) :
  ∃ t H',callF PP orc k spec_NarrowHidden.id [.sl 1 ms,.int .i64 n] H=some (.sl 1 t,H')∧H <+: H'∧Own 1 H H' t ((hiddenV n l).map (.int .i64)):=by
 obtain ⟨k,rfl⟩:=Zs k (by omega)
 rw [spec_NarrowHidden.call]
 have h1:=specMasksValid_any (show 2000000 ≤ k by omega) hb hm hl
 unfold hiddenV
 cases hv:masksOk n l with
 | false=>
  rw [hv] at h1
  rw [iN (by simp)]
  exact ⟨Sl.mk false H.length 0 0,H ++ [some (Blk.mk false [])],by simp only [spec_NarrowHidden.f,dt,df,bt,bf,nt,nf,Za,Zy,Zx,Zt,Zf,Zn,Zz,Zi,Zo,wr,AV.toB,AV.toI,AV.toS,if_true,h1],(List.prefix_append _ _),own_new 1 H [] 0 rfl⟩
 | true=>
  rw [hv] at h1
  rw [ip rfl]
  obtain ⟨l4,l16,lN,hN,n2,n4⟩:=masks_len hv
  have hM:=masks_M hv
  have h2:=l6Copy_ok (show 1 ≤ k by omega) hm hl
  have hnew:=own_new 1 H (l.map (.int .i64)) l.length (by simp)
  obtain ⟨H',a',b1,b2,b3,b4⟩:=Hidden_l0 (show 2000000 ≤ k by omega) hv hm (2 * n).toNat 0 k (H ++ [some (Blk.mk false (l.map (.int .i64)))]) l _ (by omega) (by omega) (List.prefix_append _ _) hnew (Sub.refl hM)
  have e:a'=subAll l (PH n l):=(b4.congr fun x w hx=>(show _ ↔ PH n l x w from ⟨by rintro (h | ⟨ln,u,_,h⟩); exact h.elim; exact ⟨ln,u,h⟩,fun ⟨ln,u,h⟩=>.inr ⟨ln,u,by omega,h⟩⟩)).eq hM
  subst e
  refine ⟨_,H',?_,b2,b3⟩
  simp only [Int.natCast_zero] at b1
  simp only [spec_NarrowHidden.f,dt,df,bt,bf,nt,nf,Za,Zy,Zx,Zt,Zf,Zn,Zz,Zi,Zo,wr,AV.toB,AV.toI,AV.toS,if_true,h1,h2,b1]
end Go.Proofs.Ytchliocobgkmbaa.Rp
