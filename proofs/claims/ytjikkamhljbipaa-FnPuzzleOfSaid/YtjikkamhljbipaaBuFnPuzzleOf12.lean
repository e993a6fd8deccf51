/- Texts for the row of the law FnPuzzleOf, part 12: the plain machine, the program's functions on it, what they come to. No conditions. -/
import Derived.Test.YtjikkamhljbipaaBuFnPuzzleOf10
import Derived.Test.YtjikkamhljbipaaBuFnPuzzleOf11
import Derived.Test.YtjikkamhljbipaaBuFnPuzzleOf6
import Derived.Test.YtjikkamhljbipaaBuFnPuzzleOf7
set_option linter.unusedVariables false
set_option linter.unusedSimpArgs false
namespace Go.Proofs.Ytjikkamhljbipaa.Rp
open Go Go.RowKit Go.Proofs.Ytjikkamhljbipaa.Ab
theorem orFrom_has {vals:List Int} (hv:Vals vals):∀ (j i:Nat) {fl:List Int},Ms fl→i + j=vals.length→vals.length ≤ fl.length→∀ x v:Nat,has ((orFrom vals fl i j).getD x 0) v=true ↔ has (fl.getD x 0) v=true ∨ (i ≤ x∧x < i + j∧vals.getD x 0=(v:Int))
 | 0,i,fl,h,_,_,x,v=>by rw [orFrom]; constructor; exact .inl; rintro (h | h); exact h; omega
 | j + 1,i,fl,h,hi,hl,x,v=>by
  have hM:=M.pw (hv.at i).1 (hv.at i).2
  rw [orFrom,orFrom_has hv j (i + 1) (h.set i (M.or (h.at i) hM)) (by omega) (by simpa using hl)]
  by_cases e:x=i
  ·subst e
   have:(fl.set x (mOr (fl.getD x 0) (pw (vals.getD x 0)))).getD x 0=mOr (fl.getD x 0) (pw (vals.getD x 0)):=by
    rw [List.getD_eq_getElem?_getD,List.getElem?_set_self (by omega)]; rfl
   rw [this,has_or,has_pw (hv.at x).1]
   simp only [Bool.or_eq_true,decide_eq_true_eq]
   constructor
   ·rintro ((h | h) | h)
    ·exact .inl h
    ·exact .inr ⟨by omega,by omega,h.symm⟩
    ·omega
   ·rintro (h | h)
    ·exact .inl (.inl h)
    ·exact .inl (.inr h.2.2.symm)
  ·have:(fl.set i (mOr (fl.getD i 0) (pw (vals.getD i 0)))).getD x 0=fl.getD x 0:=by
    rw [List.getD_eq_getElem?_getD,List.getElem?_set_ne (Ne.symm e),← List.getD_eq_getElem?_getD]
   rw [this]
   constructor
   ·rintro (h | h)
    ·exact .inl h
    ·exact .inr ⟨by omega,by omega,h.2.2⟩
   ·rintro (h | h)
    ·exact .inl h
    ·exact .inr ⟨by omega,by omega,h.2.2⟩
def AllIn:List Int→List Int→Prop
 | [],[]=>True
 | m :: ms,w :: ws=>w ∈ maskVals m∧AllIn ms ws
 | _,_=>False
theorem AllIn.len:∀ {ms ws:List Int},AllIn ms ws→ws.length=ms.length
 | [],[],_=>rfl
 | _ :: _,_ :: _,h=>by simp [AllIn.len h.2]
 | [],_ :: _,h=>h.elim
 | _ :: _,[],h=>h.elim
theorem AllIn.vals:∀ {ms ws:List Int},AllIn ms ws→∀ w ∈ ws,1 ≤ w∧w ≤ 4
 | [],[],_,w,hw=>by cases hw
 | _ :: _,_ :: _,h,w,hw=>by
  rcases List.mem_cons.1 hw with e | e
  ·rw [e]; exact maskVals_mem h.1
  ·exact AllIn.vals h.2 w e
 | [],_ :: _,h,_,_=>h.elim
 | _ :: _,[],h,_,_=>h.elim
theorem ways_has (h:List Int→Bool):∀ (ms vals fl:List Int),Vals vals→vals.length + ms.length ≤ 4→Ms fl→vals.length + ms.length ≤ fl.length→∀ x v:Nat,x < vals.length + ms.length →
  (has ((ways h ms vals fl).getD x 0) v=true ↔ has (fl.getD x 0) v=true ∨ ∃ ws,AllIn ms ws∧h (vals ++ ws)=true∧(vals ++ ws).getD x 0=(v:Int))
 | [],vals,fl,hv,hl4,hf,hl,x,v,hx=>by
  simp only [Zm,Nat.add_zero] at hx hl
  have key:(∃ ws,AllIn [] ws∧h (vals ++ ws)=true∧(vals ++ ws).getD x 0=(v:Int)) ↔ (h vals=true∧vals.getD x 0=(v:Int)):=by
   constructor
   ·rintro ⟨ws,h1,h2,h3⟩
    cases ws with
    | nil=>rw [List.append_nil] at h2 h3; exact ⟨h2,h3⟩
    | cons w ws=>exact h1.elim
   ·rintro ⟨h1,h2⟩
    exact ⟨[],trivial,by rw [List.append_nil]; exact h1,by rw [List.append_nil]; exact h2⟩
  rw [key,ways]
  split
  ·rename_i hh
   unfold orAll
   rw [orFrom_has hv vals.length 0 hf (by omega) hl]
   constructor
   ·rintro (a | a)
    ·exact .inl a
    ·exact .inr ⟨hh,a.2.2⟩
   ·rintro (a | a)
    ·exact .inl a
    ·exact .inr ⟨by omega,by omega,a.2⟩
  ·rename_i hh
   constructor
   ·exact .inl
   ·rintro (a | a)
    ·exact a
    ·exact absurd a.1 hh
 | m :: ms,vals,fl,hv,hl4,hf,hl,x,v,hx=>by
  simp only [Zl] at hl4 hl hx
  have key:∀ (L:List Int) (fl:List Int),(∀ w ∈ L,1 ≤ w∧w ≤ 4)→Ms fl→vals.length + ms.length + 1 ≤ fl.length →
    (has ((L.foldl (fun f v=>ways h ms (vals ++ [v]) f) fl).getD x 0) v=true ↔ has (fl.getD x 0) v=true ∨ ∃ w ∈ L,∃ ws,AllIn ms ws∧h (vals ++ w :: ws)=true∧(vals ++ w :: ws).getD x 0=(v:Int)):=by
   intro L
   induction L with
   | nil=>intro fl _ _ _; simp
   | cons w L ih=>
    intro fl hL hf hl
    have hw:=hL w (by simp)
    have hv1:=hv.app (show vals.length < 4 by omega) (v:=w) ⟨by omega,hw.2⟩
    have w1:=ways_ok h ms (vals ++ [w]) fl hv1 (by simp; omega) hf
    have w2:=ways_has h ms (vals ++ [w]) fl hv1 (by simp; omega) hf (by simp; omega) x v (by simp; omega)
    rw [List.foldl_cons,ih _ (fun y hy=>hL y (by simp [hy])) w1.1 (by rw [w1.2]; exact hl),w2]
    simp only [List.append_assoc,List.singleton_append]
    constructor
    ·rintro ((a | ⟨ws,a⟩) | ⟨y,hy,ws,a⟩)
     ·exact .inl a
     ·exact .inr ⟨w,by simp,ws,a⟩
     ·exact .inr ⟨y,by simp [hy],ws,a⟩
    ·rintro (a | ⟨y,hy,ws,a⟩)
     ·exact .inl (.inl a)
     ·rcases List.mem_cons.1 hy with e | e
      ·subst e; exact .inl (.inr ⟨ws,a⟩)
      ·exact .inr ⟨y,e,ws,a⟩
  rw [ways,key (maskVals m) fl (fun w hw=>maskVals_mem hw) hf (by omega)]
  constructor
  ·rintro (a | ⟨w,hw,ws,a1,a2,a3⟩)
   ·exact .inl a
   ·exact .inr ⟨w :: ws,⟨hw,a1⟩,a2,a3⟩
  ·rintro (a | ⟨ws,a1,a2,a3⟩)
   ·exact .inl a
   ·cases ws with
    | nil=>exact a1.elim
    | cons w ws=>exact .inr ⟨w,a1.1,ws,a1.2,a2,a3⟩
theorem has_zero (v:Nat):has 0 v=false:=by unfold has; simp
theorem ruleMasks_has {kind value:Int} {own:List Int} (hl:own.length ≤ 4) (x v:Nat) (hx:x < own.length) :
  has ((ruleMasksV kind value own).getD x 0) v=true ↔ ∃ ws,AllIn own ws∧holdsV kind value ws=true∧ws.getD x 0=(v:Int):=by
 unfold ruleMasksV
 rw [ways_has _ own [] _ ⟨by simp,fun v hv=>by cases hv⟩ (by simpa using hl) (Ms.zeros _) (by simp) x v (by simpa using hx)]
 have e:(List.replicate own.length (0:Int)).getD x 0=0:=by simp [List.getD_eq_getElem?_getD,hx]
 rw [e,has_zero]
 simp
theorem ruleMasks_ok {kind value:Int} {own:List Int} (hl:own.length ≤ 4):Ms (ruleMasksV kind value own)∧(ruleMasksV kind value own).length=own.length:=by
 have:=ways_ok (holdsV kind value) own [] (List.replicate own.length 0) ⟨by simp,fun v hv=>by cases hv⟩ (by simpa using hl) (Ms.zeros _)
 exact ⟨this.1,this.2.trans (by simp)⟩
theorem ne_zero_has {m:Int} (hm:M m):m ≠ 0 ↔ ∃ v:Nat,has m v=true:=by
 constructor
 ·intro h
  apply Classical.byContradiction
  intro hc
  apply h
  refine m_ext hm ⟨by decide,by decide⟩ fun v _=>?_
  rw [has_zero]
  cases e:has m v with
  | false=>rfl
  | true=>exact absurd ⟨v,e⟩ hc
 ·rintro ⟨v,hv⟩ e
  rw [e,has_zero] at hv; cases hv
theorem head_getD (l:List Int):l.headD 0=l.getD 0 0:=by cases l <;> rfl
theorem canHold_iff {n:Int} {g:List Int} {r:V} (h1:1 ≤ r.2.1.length) (h4:r.2.1.length ≤ 4):canHoldV n g r=true ↔ ∃ ws,AllIn (ownOf (openOf n g) r.2.1) ws∧holdsV r.1 r.2.2 ws=true:=by
 unfold canHoldV
 have hl:(ownOf (openOf n g) r.2.1).length=r.2.1.length:=by simp [ownOf]
 have ho:=ruleMasks_ok (kind:=r.1) (value:=r.2.2) (own:=ownOf (openOf n g) r.2.1) (by omega)
 rw [bne_iff_ne,head_getD,ne_zero_has (ho.1.at 0)]
 constructor
 ·rintro ⟨v,hv⟩
  obtain ⟨ws,a,b,_⟩:=(ruleMasks_has (by omega) 0 v (by omega)).1 hv
  exact ⟨ws,a,b⟩
 ·rintro ⟨ws,a,b⟩
  have hwl:=a.len
  have hw:=a.vals _ (mem_getD (show 0 < ws.length by omega))
  refine ⟨(ws.getD 0 0).toNat,(ruleMasks_has (by omega) 0 _ (by omega)).2 ⟨ws,a,b,by omega⟩⟩
theorem tab_mv:∀ m:Nat,m < 16→∀ w:Nat,w < 6→((maskVals ((2 * m:Nat):Int)).contains (w:Int)=(decide (1 ≤ w) && (2 * m).testBit w)):=by decide +kernel
theorem mem_maskVals {m w:Int} (hm:0 ≤ m∧m ≤ 30) (he:m.tmod 2=0):w ∈ maskVals m ↔ (1 ≤ w∧w ≤ 4)∧has m w.toNat=true:=by
 obtain ⟨a,ha⟩:∃ a:Nat,m=((2 * a:Nat):Int):=⟨(m / 2).toNat,by rw [Int.tmod_eq_emod_of_nonneg hm.1] at he; omega⟩
 have ha16:a < 16:=by omega
 by_cases hw:1 ≤ w∧w ≤ 4
 ·obtain ⟨b,rfl⟩:=Int.eq_ofNat_of_zero_le (show 0 ≤ w by omega)
  have:=tab_mv a ha16 b (by omega)
  rw [← ha] at this
  rw [← List.contains_iff_mem,this]
  have h1:1 ≤ b:=by omega
  have e:has m ((b:Nat):Int).toNat=(2 * a).testBit b:=by unfold has; rw [ha,Int.toNat_natCast,Int.toNat_natCast]
  rw [e]
  simp [h1,hw]
 ·constructor
  ·intro h; exact absurd (maskVals_mem h) hw
  ·intro h; exact absurd h.1 hw
def Le (g' g:List Int):Prop:=g'.length=g.length∧∀ i:Nat,g'.getD i 0=0 ∨ g'.getD i 0=g.getD i 0
theorem Le.refl (g:List Int):Le g g:=⟨rfl,fun _=>.inr rfl⟩
theorem Le.trans {a b c:List Int} (h:Le a b) (h':Le b c):Le a c:=⟨h.1.trans h'.1,fun i=>by
 rcases h.2 i with e | e
 ·exact .inl e
 ·rw [e]; exact h'.2 i⟩
theorem Le.gv {g' g:List Int} (h:Le g' g) (c:Int):gv g' c=0 ∨ gv g' c=gv g c:=h.2 c.toNat
theorem getD_set {l:List Int} {i j:Nat} {v:Int}:(l.set i v).getD j 0=if i=j∧i < l.length then v else l.getD j 0:=by
 rw [List.getD_eq_getElem?_getD,List.getElem?_set]
 by_cases e:i=j
 ·subst e
  by_cases h:i < l.length
  ·simp [h]
  ·simp [h,List.getD_eq_getElem?_getD,List.getElem?_eq_none (Nat.le_of_not_lt h)]
 ·simp [e]
theorem clashL_anti {g' g:List Int} (h:Le g' g):∀ (cells s' s:List Int),(∀ v,0 < v→v ∈ s'→v ∈ s)→clashL g' cells s'=true→clashL g cells s=true
 | [],s',s,_,hc=>by cases hc
 | c :: cs,s',s,hs,hc=>by
  rw [clashL] at hc ⊢
  rw [Bool.or_eq_true,Bool.and_eq_true,decide_eq_true_eq,List.contains_iff_mem] at hc ⊢
  rcases h.gv c with e | e
  ·rcases hc with ⟨a,_⟩ | a
   ·omega
   ·refine .inr (clashL_anti h cs _ _ (fun v hv hm=>?_) a)
    rw [e] at hm
    rcases List.mem_cons.1 hm with e' | e'
    ·omega
    ·exact List.mem_cons_of_mem _ (hs v hv e')
  ·rw [e] at hc
   rcases hc with ⟨a,b⟩ | a
   ·exact .inl ⟨a,hs _ a b⟩
   ·refine .inr (clashL_anti h cs _ _ (fun v hv hm=>?_) a)
    rcases List.mem_cons.1 hm with e' | e'
    ·rw [e']; exact List.mem_cons_self
    ·exact List.mem_cons_of_mem _ (hs v hv e')
theorem clashFrom_anti {g' g:List Int} (h:Le g' g) (n:Int):∀ (j line:Nat),clashFrom g' n line j=true→clashFrom g n line j=true
 | 0,_,hc=>by cases hc
 | j + 1,line,hc=>by
  rw [clashFrom,Bool.or_eq_true] at hc ⊢
  rcases hc with a | a
  ·exact .inl (clashL_anti h _ _ _ (fun v _ hm=>hm) a)
  ·exact .inr (clashFrom_anti h n j (line + 1) a)
theorem clash_anti {g' g:List Int} (h:Le g' g) (n:Int) (hc:clash g n=false):clash g' n=false:=by
 cases e:clash g' n with
 | false=>rfl
 | true=>
  have:clash g n=true:=clashFrom_anti h n _ _ e
  rw [this] at hc; cases hc
theorem compatFrom_iff (a g:List Int):∀ (j i:Nat),compatFrom a g i j=true ↔ ∀ x,i ≤ x→x < i + j→a.getD x 0 > 0→g.getD x 0 > 0→g.getD x 0=a.getD x 0
 | 0,i=>by simp [compatFrom]; intro x h1 h2; omega
 | j + 1,i=>by
  rw [compatFrom,Bool.and_eq_true,compatFrom_iff a g j (i + 1)]
  simp only [Bool.not_eq_true',Bool.and_eq_false_iff,decide_eq_false_iff_not,bne_eq_false_iff_eq]
  constructor
  ·rintro ⟨h1,h2⟩ x hx1 hx2 ha hg
   by_cases e:x=i
   ·subst e
    rcases h1 with h1 | h1 | h1
    ·omega
    ·omega
    ·exact h1
   ·exact h2 x (by omega) (by omega) ha hg
  ·intro h
   refine ⟨?_,fun x h1 h2=>h x (by omega) (by omega)⟩
   by_cases h1:a.getD i 0 > 0
   ·by_cases h2:g.getD i 0 > 0
    ·exact .inr (.inr (h i (by omega) (by omega) h1 h2))
    ·exact .inr (.inl h2)
   ·exact .inl h1
theorem compatB_iff (a g:List Int):compatB a g=true ↔ ∀ x,x < g.length→a.getD x 0 > 0→g.getD x 0 > 0→g.getD x 0=a.getD x 0:=by
 unfold compatB
 rw [compatFrom_iff]
 constructor
 ·intro h x hx; exact h x (by omega) (by omega)
 ·intro h x _ hx; exact h x (by omega)
theorem AllIn.mono:∀ {ms ms' ws:List Int},ms.length=ms'.length→(∀ i,i < ms.length→∀ w,w ∈ maskVals (ms.getD i 0)→w ∈ maskVals (ms'.getD i 0))→AllIn ms ws→AllIn ms' ws
 | [],[],[],_,_,_=>trivial
 | m :: ms,m' :: ms',w :: ws,hl,hs,h=>⟨hs 0 (by simp) w h.1,AllIn.mono (by simpa using hl) (fun i hi w hw=>hs (i + 1) (by simpa using hi) w hw) h.2⟩
 | [],_ :: _,_,hl,_,_=>by simp at hl
 | _ :: _,[],_,hl,_,_=>by simp at hl
 | [],[],_ :: _,_,_,h=>h.elim
 | _ :: _,_ :: _,[],_,_,h=>h.elim
theorem tab_open:∀ n:Int,2 ≤ n∧n ≤ 4→(∀ v:Int,1 ≤ v∧v ≤ n→maskVals (pw v)=[v])∧maskVals (topMask n)=upto n.toNat 1:=by
 intro n hn
 have:n=2 ∨ n=3 ∨ n=4:=by omega
 rcases this with rfl | rfl | rfl
 all_goals
  refine ⟨fun v hv=>?_,by decide⟩
  have:v=1 ∨ v=2 ∨ v=3 ∨ v=4:=by omega
  rcases this with rfl | rfl | rfl | rfl <;> first | omega | decide
theorem mem_upto:∀ (j:Nat) (v w:Int),w ∈ upto j v ↔ v ≤ w∧w < v + j
 | 0,v,w=>by
  constructor
  ·intro h; cases h
  ·intro h; omega
 | j + 1,v,w=>by rw [upto,List.mem_cons,mem_upto j]; push_cast; omega
theorem openOf_at {n:Int} {g:List Int} {i:Nat} (hi:i < g.length):(openOf n g).getD i 0=if g.getD i 0 > 0 then pw (g.getD i 0) else topMask n:=by
 unfold openOf
 rw [List.getD_eq_getElem?_getD,List.getElem?_map,List.getElem?_eq_getElem hi,List.getD_eq_getElem?_getD (l:=g),List.getElem?_eq_getElem hi]; rfl
theorem open_vals {n:Int} {g:List Int} (hg:gridOk g n=true) {i:Nat} (hi:i < g.length) (w:Int):w ∈ maskVals ((openOf n g).getD i 0) ↔ (1 ≤ w∧w ≤ n)∧(g.getD i 0 > 0→w=g.getD i 0):=by
 obtain ⟨hn,h2,h3⟩:=(gridOk_iff g n).1 hg
 have hv:=h3 _ (mem_getD hi)
 obtain ⟨t1,t2⟩:=tab_open n hn
 rw [openOf_at hi]
 split
 ·rename_i c
  rw [t1 _ ⟨by omega,hv.2⟩]
  simp only [List.mem_singleton]
  constructor
  ·intro e; subst e; exact ⟨⟨by omega,hv.2⟩,fun _=>rfl⟩
  ·intro h; exact h.2 c
 ·rename_i c
  rw [t2,mem_upto]
  constructor
  ·intro h; exact ⟨by omega,fun h=>absurd h c⟩
  ·intro h; omega
theorem canHold_anti {n:Int} {g' g:List Int} (h:Le g' g) (hg:gridOk g n=true) (hg':gridOk g' n=true) {r:V} (hr:ruleOkV n r=true) (hc:canHoldV n g r=true):canHoldV n g' r=true:=by
 obtain ⟨c1,c2,c3,c4⟩:=ruleOk_cells hr
 have hl:=((gridOk_iff g n).1 hg).2.1
 have hl':=h.1
 rw [canHold_iff c3 c2] at hc ⊢
 obtain ⟨ws,a,b⟩:=hc
 refine ⟨ws,a.mono (by simp [ownOf]) (fun i hi w hw=>?_),b⟩
 have hi':i < r.2.1.length:=by simpa [ownOf] using hi
 have hcc:=c1 _ (mem_getD hi')
 have e:∀ g:List Int,(ownOf (openOf n g) r.2.1).getD i 0=(openOf n g).getD (r.2.1.getD i 0).toNat 0:=fun g=>by
  unfold ownOf
  rw [List.getD_eq_getElem?_getD,List.getElem?_map,List.getElem?_eq_getElem hi',List.getD_eq_getElem?_getD (l:=r.2.1),List.getElem?_eq_getElem hi']; rfl
 rw [e] at hw ⊢
 have hlt:(r.2.1.getD i 0).toNat < g.length:=by omega
 rw [open_vals hg hlt] at hw
 rw [open_vals hg' (by omega)]
 refine ⟨hw.1,fun h1=>?_⟩
 rcases h.2 (r.2.1.getD i 0).toNat with e1 | e1
 ·omega
 ·rw [e1] at h1 ⊢; exact hw.2 h1
theorem grid_le {n:Int} {g' g:List Int} (h:Le g' g) (hg:gridOk g n=true):gridOk g' n=true:=by
 obtain ⟨hn,h2,h3⟩:=(gridOk_iff g n).1 hg
 refine (gridOk_iff g' n).2 ⟨hn,by rw [h.1]; exact h2,fun v hv=>?_⟩
 obtain ⟨i,hi,rfl⟩:=List.getElem_of_mem hv
 have e:g'.getD i 0=g'[i]:=by simp [List.getD_eq_getElem?_getD,hi]
 have hi2:i < g.length:=by rw [← h.1]; exact hi
 have:=h3 _ (mem_getD hi2)
 rcases h.2 i with e1 | e1
 ·rw [← e,e1]; omega
 ·rw [← e,e1]; exact this
theorem fits_anti {n:Int} {given:List Int} {vs:List V} {g' g:List Int} (h:Le g' g) (hg:gridOk g n=true) (hv:vs.all (ruleOkV n)=true) (hc:fitsV n given vs g=true):fitsV n given vs g'=true:=by
 unfold fitsV at hc ⊢
 simp only [Bool.and_eq_true,List.all_eq_true,Bool.not_eq_true'] at hc hv ⊢
 refine ⟨?_,fun r hr=>canHold_anti h hg (grid_le h hg) (hv r hr) (hc.2.1 r hr),clash_anti h n hc.2.2⟩
 rw [compatB_iff] at hc ⊢
 intro x hx ha hg1
 rcases h.2 x with e | e
 ·omega
 ·rw [e] at hg1 ⊢; exact hc.1 x (by rw [← h.1]; exact hx) ha hg1
def ruleHoldsV (g:List Int) (r:V):Bool:=r.2.1.all (fun c=>decide (gv g c ≠ 0)) && holdsV r.1 r.2.2 (r.2.1.map (gv g))
theorem gv_bounds {n:Int} {g:List Int} (hg:gridOk g n=true) (c:Int):0 ≤ gv g c∧gv g c ≤ 4:=by
 obtain ⟨hn,h2,h3⟩:=(gridOk_iff g n).1 hg
 unfold gv
 by_cases h:c.toNat < g.length
 ·have:=h3 _ (mem_getD h); omega
 ·rw [List.getD_eq_getElem?_getD,List.getElem?_eq_none (by omega)]; simp
theorem RuleHolds_l2 {k:Nat} (hk:2000002 ≤ k) {n kind value:Int} {cs xs:Sl} {H0:Hp} {cells g:List Int} (hc:Reads .i64 H0 cs cells) (hx:Reads .i64 H0 xs g) (hr:ruleOk n kind cells value=true) (hg:gridOk g n=true) :
  ∀ (j i fuel:Nat) (H:Hp) (t:Sl),i + j=cells.length→j < fuel→H0 <+: H→Own 1 H0 H t (((cells.take i).map (gv g)).map (.int .i64)) →
   ∃ H',impl_RuleHolds.l2 (callF PP orc k) k fuel xs t cs cells.length i kind cs value H=some (.bool ((cells.drop i).all (fun c=>decide (gv g c ≠ 0)) && holdsV kind value (cells.map (gv g))),H')∧H0 <+: H':=by
 obtain ⟨hn,g2,g3⟩:=(gridOk_iff g n).1 hg
 obtain ⟨c1,c2,c3,c4⟩:=ruleOk_cells hr
 have hcl:=hc.len
 have hxl:=hx.len
 intro j
 induction j with
 | zero=>
  intro i fuel H t hi hf hp ho
  obtain ⟨fuel,rfl⟩:=Zs fuel (by omega)
  rw [List.take_of_length_le (by omega)] at ho
  rw [show cells.drop i=[] from List.drop_eq_nil_of_le (by omega)]
  have hkl:KindLen kind (cells.map (gv g)).length:=by
   simp only [List.length_map]
   unfold ruleOk at hr; rw [Bool.and_eq_true] at hr; exact kindLen_of hr.2
  have h1:=valuesHold_ok (show 2000002 ≤ k by omega) (kind:=kind) (value:=value) (cs:=cs) (own_reads ho) ⟨by simp; omega,fun v hv=>by obtain ⟨c,_,rfl⟩:=List.mem_map.1 hv; exact gv_bounds hg c⟩ hkl
  refine ⟨H,?_,hp⟩
  simp (disch:=omega) only [impl_RuleHolds.l2,impl_RuleHolds.j3,dt,df,bt,bf,nt,nf,Za,Zy,Zx,Zt,Zf,Zn,Zz,Zi,Zo,wr,AV.toB,AV.toI,AV.toS,if_true,h1,List.all_nil,Bool.true_and]
 | succ j ih=>
  intro i fuel H t hi hf hp ho
  obtain ⟨fuel,rfl⟩:=Zs fuel (by omega)
  have hi2:i < cells.length:=by omega
  have hcc:=c1 _ (mem_getD hi2)
  have hlt:(cells.getD i 0).toNat < g.length:=by omega
  have htl:t.len=i:=by have:=ho.len; simp at this; omega
  have hd:cells.drop i=cells.getD i 0 :: cells.drop (i + 1):=by
   rw [List.drop_eq_getElem_cons hi2,List.getD_eq_getElem?_getD,List.getElem?_eq_getElem hi2]; rfl
  rw [hd,List.all_cons]
  have hgv:gv g (cells.getD i 0)=g.getD (cells.getD i 0).toNat 0:=rfl
  by_cases c:g.getD (cells.getD i 0).toNat 0=0
  ·refine ⟨H,?_,hp⟩
   rw [df (show ¬ gv g (cells.getD i 0) ≠ 0 by rw [hgv]; omega)]
   simp (disch:=omega) only [impl_RuleHolds.l2,dt,df,bt,bf,nt,nf,Za,Zy,Zx,Zt,Zf,Zn,Zz,Zi,Zo,wr,AV.toB,AV.toI,AV.toS,if_true,rdn (pf_reads hp hc),rdn (pf_reads hp hx),Bool.false_and]
  ·have htk:(cells.take (i + 1)).map (gv g)=(cells.take i).map (gv g) ++ [g.getD (cells.getD i 0).toNat 0]:=by
    rw [List.take_succ_eq_append_getElem hi2,List.map_append,← hgv,List.getD_eq_getElem?_getD,List.getElem?_eq_getElem hi2]; rfl
   obtain ⟨H1,a1,a2,a3,a4,a5⟩:=own_app1 ho hp (g.getD (cells.getD i 0).toNat 0) (by omega)
   rw [← htk] at a3
   obtain ⟨H',b1,b2⟩:=ih (i + 1) fuel H1 _ (by omega) (by omega) a2 a3
   push_cast at b1
   refine ⟨H',?_,b2⟩
   rw [dt (show gv g (cells.getD i 0) ≠ 0 by rw [hgv]; exact c),Bool.true_and]
   simp (disch:=omega) only [impl_RuleHolds.l2,dt,df,bt,bf,nt,nf,Za,Zy,Zx,Zt,Zf,Zn,Zz,Zi,Zo,wr,AV.toB,AV.toI,AV.toS,if_true,rdn (pf_reads hp hc),rdn (pf_reads hp hx),a1,b1]
theorem implRuleHolds_ok {k:Nat} (hk:2000010 ≤ k) {n kind value:Int} {cs xs:Sl} {H:Hp} {cells g:List Int} (hn:2 ≤ n∧n ≤ 4) (hc:Reads .i64 H cs cells) (hcl:cells.length ≤ 1000) (hx:Reads .i64 H xs g) (hxl:g.length ≤ 1000) :
  ∃ H',callF PP orc k impl_RuleHolds.id [.agg [.int .i64 kind,.sl 1 cs,.int .i64 value],.sl 1 xs,.int .i64 n] H=some (.bool (ruleOk n kind cells value && (gridOk g n && ruleHoldsV g (kind,cells,value))),H')∧H <+: H':=by
 obtain ⟨k,rfl⟩:=Zs k (by omega)
 rw [impl_RuleHolds.call]
 have h1:=implRuleValid_ok (show 2000002 ≤ k by omega) (kind:=kind) (value:=value) hn hc hcl
 have h2:=implGridValid_ok (show 2000000 ≤ k by omega) hx (by omega) n
 have hl:=hc.len
 cases c1:ruleOk n kind cells value with
 | false=>
  rw [c1] at h1
  exact ⟨H,by simp only [impl_RuleHolds.f,impl_RuleHolds.j0,dt,df,bt,bf,nt,nf,Za,Zy,Zx,Zt,Zf,Zn,Zz,Zi,Zo,wr,AV.toB,AV.toI,AV.toS,if_true,h1,Bool.false_and],(List.prefix_refl _)⟩
 | true=>
  rw [c1] at h1
  cases c2:gridOk g n with
  | false=>
   rw [c2] at h2
   exact ⟨H,by simp only [impl_RuleHolds.f,impl_RuleHolds.j0,dt,df,bt,bf,nt,nf,Za,Zy,Zx,Zt,Zf,Zn,Zz,Zi,Zo,wr,AV.toB,AV.toI,AV.toS,if_true,h1,h2,Bool.false_and,Bool.true_and],(List.prefix_refl _)⟩
  | true=>
   rw [c2] at h2
   have:=(ruleOk_cells c1).2.1
   obtain ⟨H',a1,a2⟩:=RuleHolds_l2 (show 2000002 ≤ k by omega) hc hx c1 c2 cells.length 0 k (H ++ [some (Blk.mk false [])]) (Sl.mk false H.length 0 0) (by omega) (by omega) (List.prefix_append _ _) (own_new 1 H [] 0 rfl)
   simp only [Int.natCast_zero,List.drop_zero] at a1
   refine ⟨H',?_,a2⟩
   unfold ruleHoldsV
   simp only [impl_RuleHolds.f,impl_RuleHolds.j0,impl_RuleHolds.j1,dt,df,bt,bf,nt,nf,Za,Zy,Zx,Zt,Zf,Zn,Zz,Zi,Zo,wr,AV.toB,AV.toI,AV.toS,if_true,h1,h2,hl,a1,Bool.true_and]
theorem implSquareSolved_ok' {k:Nat} (hk:2000003 ≤ k) {H:Hp} {xs:Sl} {g:List Int} {n:Int} (hn:2 ≤ n∧n ≤ 4) (hx:Reads .i64 H xs g) (hl:g.length ≤ 1000) :
  ∃ H',callF PP orc k impl_SquareSolved.id [.sl 1 xs,.int .i64 n] H=some (.bool (squareSolved g n),H')∧H <+: H':=by
 obtain ⟨k,rfl⟩:=Zs k (by omega)
 rw [impl_SquareSolved.call]
 obtain ⟨H1,a1,a2⟩:=implSquareFits_ok (show 2000001 ≤ k by omega) n hx (by omega)
 have h7:=n7 (n:=n) (by omega)
 unfold squareSolved
 cases c:squareFits g n with
 | false=>
  rw [c] at a1
  exact ⟨H1,by simp only [impl_SquareSolved.f,dt,df,bt,bf,nt,nf,Za,Zy,Zx,Zt,Zf,Zn,Zz,Zi,Zo,wr,AV.toB,AV.toI,AV.toS,if_true,a1,Bool.false_and],a2⟩
 | true=>
  rw [c] at a1
  have hg:gridOk g n=true:=by unfold squareFits at c; rw [Bool.and_eq_true] at c; exact c.1
  have h2:=implGridFilled_ok (show 2000001 ≤ k by omega) (pf_reads a2 hx) (by omega) n
  rw [hg,ip rfl] at h2
  refine ⟨H1,?_,a2⟩
  have e:(((filled g:Nat):Int) == n * n)=decide ((filled g:Int)=n * n):=by rw [Bool.eq_iff_iff]; simp
  simp (disch:=omega) only [impl_SquareSolved.f,dt,df,bt,bf,nt,nf,Za,Zy,Zx,Zt,Zf,Zn,Zz,Zi,Zo,wr,AV.toB,AV.toI,AV.toS,if_true,a1,h2,Bool.true_and]
  rw [e]
theorem Clone_own {k:Nat} (hk:1 ≤ k) {H:Hp} {s:Sl} {l:List Int} (hs:Reads .i64 H s l) (hn:s.nil=false) (hl:l.length ≤ 1000) :
  callF PP orc k slices_Clone_int.id [.sl 1 s] H=some (.sl 1 (Sl.mk false H.length 0 l.length),H ++ [some (Blk.mk false (l.map (.int .i64)))]):=by
 obtain ⟨k,rfl⟩:=Zs k (by omega)
 rw [slices_Clone_int.call]
 simp only [slices_Clone_int.f,hn,Zf,read_ok hs,hs.len,appl_ok _ _ _ (show l.length ≤ 1000000 by omega),Zo,cells_ok,Za,Zt]
structure Sub (l l':List Int) (P:Nat→Nat→Prop):Prop where
 len:l'.length=l.length
 ms:Ms l'
 has:∀ j v:Nat,j < l.length→(has (l'.getD j 0) v=true ↔ has (l.getD j 0) v=true∧¬ P j v)
theorem Sub.refl {l:List Int} (h:Ms l):Sub l l (fun _ _=>False):=⟨rfl,h,fun j v _=>by simp⟩
theorem Sub.congr {l l':List Int} {P Q:Nat→Nat→Prop} (h:Sub l l' P) (hq:∀ j v,j < l.length→(P j v ↔ Q j v)):Sub l l' Q:=⟨h.len,h.ms,fun j v hj=>by rw [h.has j v hj,hq j v hj]⟩
theorem Sub.unique {l a b:List Int} {P:Nat→Nat→Prop} (h:Sub l a P) (h':Sub l b P):a=b:=by
 apply List.ext_getElem?
 intro i
 by_cases hi:i < l.length
 ·have ha:=h.len; have hb:=h'.len
  have e:a.getD i 0=b.getD i 0:=m_ext (h.ms.at i) (h'.ms.at i) fun v _=>by
   rw [Bool.eq_iff_iff,h.has i v hi,h'.has i v hi]
  rw [List.getD_eq_getElem?_getD,List.getD_eq_getElem?_getD,List.getElem?_eq_getElem (by omega),List.getElem?_eq_getElem (by omega)] at e
  rw [List.getElem?_eq_getElem (by omega),List.getElem?_eq_getElem (by omega)]
  simpa using e
 ·rw [List.getElem?_eq_none (by rw [h.len]; omega),List.getElem?_eq_none (by rw [h'.len]; omega)]
theorem Sub.step {l a:List Int} {P:Nat→Nat→Prop} (h:Sub l a P) (i:Nat) (hi:i < l.length) {m:Int} (hm:M m):Sub l (a.set i (mSub (a.getD i 0) m)) (fun j v=>P j v ∨ (j=i∧Rp.has m v=true)):=by
 refine ⟨by simpa using h.len,h.ms.set i (M.sub (h.ms.at i) hm),fun j v hj=>?_⟩
 have ha:=h.len
 rw [getD_set']
 by_cases e:i=j
 ·subst e
  rw [if_pos ⟨rfl,by omega⟩,has_sub (h.ms.at i) hm,Bool.and_eq_true,h.has i v hj,Bool.not_eq_true']
  cases Rp.has m v <;> simp [not_or]
 ·rw [if_neg (by omega),h.has j v hj]
  constructor
  ·rintro ⟨x,y⟩; exact ⟨x,by rintro (z | z); exact y z; exact e z.1.symm⟩
  ·rintro ⟨x,y⟩; exact ⟨x,fun z=>y (.inl z)⟩
where
 getD_set' {l:List Int} {i j:Nat} {v:Int}:(l.set i v).getD j 0=if i=j∧i < l.length then v else l.getD j 0:=by
  rw [List.getD_eq_getElem?_getD,List.getElem?_set]
  by_cases e:i=j
  ·subst e
   by_cases h:i < l.length
   ·simp [h]
   ·simp [h,List.getD_eq_getElem?_getD,List.getElem?_eq_none (Nat.le_of_not_lt h)]
  ·simp [e]
open Classical in
noncomputable def maskOf (q:Nat→Prop):Int:=(((if q 0 then 1 else 0) ||| (if q 1 then 2 else 0) ||| (if q 2 then 4 else 0) ||| (if q 3 then 8 else 0) ||| (if q 4 then 16 else 0):Nat):Int)
theorem tab_mk:∀ a b c d e:Bool,((bif a then 1 else 0) ||| (bif b then 2 else 0) ||| (bif c then 4 else 0) ||| (bif d then 8 else 0) ||| (bif e then 16 else 0):Nat) < 32 ∧
  ((bif a then 1 else 0) ||| (bif b then 2 else 0) ||| (bif c then 4 else 0) ||| (bif d then 8 else 0) ||| (bif e then 16 else 0):Nat).testBit 0=a ∧
  ((bif a then 1 else 0) ||| (bif b then 2 else 0) ||| (bif c then 4 else 0) ||| (bif d then 8 else 0) ||| (bif e then 16 else 0):Nat).testBit 1=b ∧
  ((bif a then 1 else 0) ||| (bif b then 2 else 0) ||| (bif c then 4 else 0) ||| (bif d then 8 else 0) ||| (bif e then 16 else 0):Nat).testBit 2=c ∧
  ((bif a then 1 else 0) ||| (bif b then 2 else 0) ||| (bif c then 4 else 0) ||| (bif d then 8 else 0) ||| (bif e then 16 else 0):Nat).testBit 3=d ∧
  ((bif a then 1 else 0) ||| (bif b then 2 else 0) ||| (bif c then 4 else 0) ||| (bif d then 8 else 0) ||| (bif e then 16 else 0):Nat).testBit 4=e:=by decide
open Classical in
theorem maskOf_ok (q:Nat→Prop):M (maskOf q)∧∀ v,v < 5→(has (maskOf q) v=true ↔ q v):=by
 obtain ⟨t,t0,t1,t2,t3,t4⟩:=tab_mk (decide (q 0)) (decide (q 1)) (decide (q 2)) (decide (q 3)) (decide (q 4))
 have e:maskOf q=(((bif decide (q 0) then 1 else 0) ||| (bif decide (q 1) then 2 else 0) ||| (bif decide (q 2) then 4 else 0) ||| (bif decide (q 3) then 8 else 0) ||| (bif decide (q 4) then 16 else 0):Nat):Int):=by
  unfold maskOf
  simp only [cond_eq_ite,decide_eq_true_eq]
 rw [e]
 refine ⟨⟨by omega,by omega⟩,fun v hv=>?_⟩
 unfold has
 rw [Int.toNat_natCast]
 have:v=0 ∨ v=1 ∨ v=2 ∨ v=3 ∨ v=4:=by omega
 rcases this with rfl | rfl | rfl | rfl | rfl
 ·rw [t0,decide_eq_true_eq]
 ·rw [t1,decide_eq_true_eq]
 ·rw [t2,decide_eq_true_eq]
 ·rw [t3,decide_eq_true_eq]
 ·rw [t4,decide_eq_true_eq]
noncomputable def subAll (l:List Int) (P:Nat→Nat→Prop):List Int:=(List.range l.length).map fun j=>maskOf fun v=>has (l.getD j 0) v=true∧¬ P j v
theorem subAll_ok {l:List Int} (h:Ms l) (P:Nat→Nat→Prop):Sub l (subAll l P) P:=by
 have hlen:(subAll l P).length=l.length:=by simp [subAll]
 have hat:∀ j,j < l.length→(subAll l P).getD j 0=maskOf fun v=>has (l.getD j 0) v=true∧¬ P j v:=fun j hj=>by
  rw [List.getD_eq_getElem?_getD]; simp [subAll,hj]
 refine ⟨hlen,fun m hm=>?_,fun j v hj=>?_⟩
 ·obtain ⟨j,_,rfl⟩:=List.mem_map.1 hm
  exact (maskOf_ok _).1
 ·rw [hat j hj]
  by_cases hv:v < 5
  ·exact (maskOf_ok _).2 v hv
  ·rw [has_big (maskOf_ok _).1 (by omega),has_big (h.at j) (by omega)]; simp
theorem Sub.eq {l a:List Int} {P:Nat→Nat→Prop} (hl:Ms l) (h:Sub l a P):a=subAll l P:=h.unique (subAll_ok hl P)
/-! ### The techniques -/
def single (m:Int):Bool:=(maskVals m).length == 1
def peer (n:Nat) (j k:Nat):Prop:=j ≠ k∧(j / n=k / n ∨ j % n=k % n)
def PS (n:Nat) (l:List Int) (j v:Nat):Prop:=∃ k,k < l.length∧peer n j k∧single (l.getD k 0)=true∧has (l.getD k 0) v=true
noncomputable def singlesV (n:Int) (l:List Int):List Int:=if masksOk n l=true then subAll l (PS n.toNat l) else []
def two (m:Int):Bool:=(maskVals m).length == 2
def lc (n:Int) (line i:Nat):Nat:=((lineCells n line).getD i 0).toNat
def startV (n:Int) (given:List Int) (vs:List V):List Int:=if puzzleV n given vs=true then openOf n given else []
theorem masks_M {n:Int} {l:List Int} (h:masksOk n l=true):Ms l:=fun m hm=>maskOk_M ((masksOk_iff.1 h).2.1 m hm)
theorem masks_len {n:Int} {l:List Int} (h:masksOk n l=true):4 ≤ l.length∧l.length ≤ 16∧l.length=n.toNat * n.toNat∧n=(n.toNat:Int)∧2 ≤ n.toNat∧n.toNat ≤ 4:=by
 obtain ⟨hn,_,h2⟩:=masksOk_iff.1 h
 have:n=2 ∨ n=3 ∨ n=4:=by omega
 rcases this with rfl | rfl | rfl <;> simp <;> omega
theorem zt2:(2:Int).toNat=2:=rfl
theorem zt3:(3:Int).toNat=3:=rfl
theorem zt4:(4:Int).toNat=4:=rfl
theorem clashL_iff (g:List Int):∀ (cells seen:List Int),clashL g cells seen=true ↔ ∃ i,i < cells.length∧0 < gv g (cells.getD i 0)∧(gv g (cells.getD i 0) ∈ seen ∨ ∃ j,j < i∧gv g (cells.getD j 0)=gv g (cells.getD i 0))
 | [],seen=>by simp [clashL]
 | c :: cs,seen=>by
  rw [clashL,Bool.or_eq_true,Bool.and_eq_true,decide_eq_true_eq,List.contains_iff_mem,clashL_iff g cs]
  constructor
  ·rintro (⟨h1,h2⟩ | ⟨i,hi,h1,h2⟩)
   ·exact ⟨0,by simp,h1,.inl h2⟩
   ·refine ⟨i + 1,by simpa using hi,h1,?_⟩
    rcases h2 with h2 | ⟨j,hj,h2⟩
    ·rcases List.mem_cons.1 h2 with e | e
     ·exact .inr ⟨0,by omega,e.symm⟩
     ·exact .inl e
    ·exact .inr ⟨j + 1,by omega,h2⟩
  ·rintro ⟨i,hi,h1,h2⟩
   cases i with
   | zero=>
    rcases h2 with h2 | ⟨j,hj,_⟩
    ·exact .inl ⟨h1,h2⟩
    ·omega
   | succ i=>
    refine .inr ⟨i,by simpa using hi,h1,?_⟩
    rcases h2 with h2 | ⟨j,hj,h2⟩
    ·exact .inl (List.mem_cons_of_mem _ h2)
    ·cases j with
     | zero=>exact .inl (by have e:gv g c=gv g (cs.getD i 0):=h2; rw [← e]; exact List.mem_cons_self)
     | succ j=>exact .inr ⟨j,by omega,h2⟩
theorem clashFrom_iff (g:List Int) (n:Int):∀ (j line:Nat),clashFrom g n line j=true ↔ ∃ ln:Nat,line ≤ ln∧ln < line + j∧clashL g (lineCells n ln) []=true
 | 0,line=>by simp [clashFrom]; omega
 | j + 1,line=>by
  rw [clashFrom,Bool.or_eq_true,clashFrom_iff g n j]
  constructor
  ·rintro (h | ⟨ln,h1,h2,h3⟩)
   ·exact ⟨line,Nat.le_refl _,by omega,h⟩
   ·exact ⟨ln,by omega,by omega,h3⟩
  ·rintro ⟨ln,h1,h2,h3⟩
   by_cases e:ln=line
   ·subst e; exact .inl h3
   ·exact .inr ⟨ln,by omega,by omega,h3⟩
def sameLine (N x y:Nat):Prop:=x / N=y / N ∨ x % N=y % N
theorem line_at {n:Int} (hn:2 ≤ n∧n ≤ 4) {ln i:Nat} (hl:(ln:Int) < 2 * n) (hi:(i:Int) < n):(lineCells n ln).getD i 0=lineCell n ln i∧(lineCells n ln).length=n.toNat:=by
 unfold lineCells
 rw [if_pos ⟨hn,by omega,hl⟩]
 refine ⟨?_,by simp⟩
 rw [List.getD_eq_getElem?_getD,List.getElem?_map,List.getElem?_range (by omega)]; rfl
theorem clash_iff {n:Int} (hn:2 ≤ n∧n ≤ 4) (g:List Int):clash g n=true ↔ ∃ x y:Nat,x < n.toNat * n.toNat∧y < n.toNat * n.toNat∧x ≠ y∧sameLine n.toNat x y∧0 < g.getD x 0∧g.getD y 0=g.getD x 0:=by
 have e0:clash g n=clashFrom g n 0 (2 * n).toNat:=rfl
 rw [e0,clashFrom_iff]
 have gvd:∀ c:Int,gv g c=g.getD c.toNat 0:=fun _=>rfl
 constructor
 ·rintro ⟨ln,_,h2,h3⟩
  have hl:(ln:Int) < 2 * n:=by omega
  rw [clashL_iff] at h3
  obtain ⟨i,hi,h4,h5⟩:=h3
  rw [(line_at hn hl (i:=0) (by omega)).2] at hi
  have hi':(i:Int) < n:=by omega
  rcases h5 with h5 | ⟨j,hj,h5⟩
  ·cases h5
  rw [(line_at hn hl hi').1,gvd] at h4 h5
  rw [(line_at hn hl (i:=j) (by omega)).1,gvd] at h5
  refine ⟨(lineCell n ln i).toNat,(lineCell n ln j).toNat,?_,?_,?_,?_,h4,h5⟩
  all_goals
   have:n=2 ∨ n=3 ∨ n=4:=by omega
   unfold lineCell
   try unfold sameLine
   rcases this with rfl | rfl | rfl
  all_goals
   split
  all_goals
   try simp only [zt2,zt3,zt4] at *
   omega
 ·rintro ⟨x,y,hx,hy,hne,hs,h1,h2⟩
  have key:∀ x y:Nat,x < n.toNat * n.toNat→y < n.toNat * n.toNat→∀ ln i j:Nat,(ln:Int) < 2 * n→(i:Int) < n→j < i→(lineCell n ln i).toNat=x→(lineCell n ln j).toNat=y→0 < g.getD x 0→g.getD y 0=g.getD x 0→∃ ln:Nat,0 ≤ ln∧ln < 0 + (2 * n).toNat∧clashL g (lineCells n ln) []=true:=by
   intro x y hx hy ln i j hl hi hj e1 e2 h1 h2
   refine ⟨ln,by omega,by omega,(clashL_iff _ _ _).2 ⟨i,by rw [(line_at hn hl hi).2]; omega,?_,.inr ⟨j,hj,?_⟩⟩⟩
   ·rw [(line_at hn hl hi).1,gvd,e1]; exact h1
   ·rw [(line_at hn hl hi).1,(line_at hn hl (i:=j) (by omega)).1,gvd,gvd,e1,e2]; exact h2
  have hrow:∀ x y:Nat,x < n.toNat * n.toNat→y < n.toNat * n.toNat→x / n.toNat=y / n.toNat→y % n.toNat < x % n.toNat→0 < g.getD x 0→g.getD y 0=g.getD x 0→∃ ln:Nat,0 ≤ ln∧ln < 0 + (2 * n).toNat∧clashL g (lineCells n ln) []=true:=by
   intro x y hx hy h3 h4 h1 h2
   refine key x y hx hy (x / n.toNat) (x % n.toNat) (y % n.toNat) ?_ ?_ h4 ?_ ?_ h1 h2
   all_goals
    have:n=2 ∨ n=3 ∨ n=4:=by omega
    try unfold lineCell
    rcases this with rfl | rfl | rfl
   all_goals
    try split
   all_goals
    try simp only [zt2,zt3,zt4] at *
    omega
  have hcol:∀ x y:Nat,x < n.toNat * n.toNat→y < n.toNat * n.toNat→x % n.toNat=y % n.toNat→y / n.toNat < x / n.toNat→0 < g.getD x 0→g.getD y 0=g.getD x 0→∃ ln:Nat,0 ≤ ln∧ln < 0 + (2 * n).toNat∧clashL g (lineCells n ln) []=true:=by
   intro x y hx hy h3 h4 h1 h2
   refine key x y hx hy (n.toNat + x % n.toNat) (x / n.toNat) (y / n.toNat) ?_ ?_ h4 ?_ ?_ h1 h2
   all_goals
    have:n=2 ∨ n=3 ∨ n=4:=by omega
    try unfold lineCell
    rcases this with rfl | rfl | rfl
   all_goals
    try split
   all_goals
    try simp only [zt2,zt3,zt4] at *
    omega
  have h2':g.getD x 0=g.getD y 0:=h2.symm
  have h1':0 < g.getD y 0:=by omega
  have hxy:x / n.toNat=y / n.toNat→x % n.toNat ≠ y % n.toNat:=fun h3 h4=>hne (by rw [← Nat.div_add_mod x n.toNat,← Nat.div_add_mod y n.toNat,h3,h4])
  rcases hs with hs | hs
  ·rcases Nat.lt_or_gt_of_ne (hxy hs) with h | h
   ·exact hrow y x hy hx hs.symm h h1' h2'
   ·exact hrow x y hx hy hs h h1 h2
  ·have:x / n.toNat ≠ y / n.toNat:=fun h=>hxy h hs
   rcases Nat.lt_or_gt_of_ne this with h | h
   ·exact hcol y x hy hx hs.symm h h1' h2'
   ·exact hcol x y hx hy hs h h1 h2
/-! ### One cell more -/
def cellFrom (N:Nat) (g:List Int) (at':Nat):Nat→Nat→Bool
 | _,0=>false
 | k,j + 1=>(decide (at' / N * N + k ≠ at') && decide (g.getD (at' / N * N + k) 0=g.getD at' 0)) || ((decide (k * N + at' % N ≠ at') && decide (g.getD (k * N + at' % N) 0=g.getD at' 0)) || cellFrom N g at' (k + 1) j)
theorem cellFrom_iff (N:Nat) (g:List Int) (at':Nat):∀ (j k:Nat),cellFrom N g at' k j=true ↔ ∃ u,k ≤ u∧u < k + j∧((at' / N * N + u ≠ at'∧g.getD (at' / N * N + u) 0=g.getD at' 0) ∨ (u * N + at' % N ≠ at'∧g.getD (u * N + at' % N) 0=g.getD at' 0))
 | 0,k=>by simp [cellFrom]; omega
 | j + 1,k=>by
  rw [cellFrom,Bool.or_eq_true,Bool.or_eq_true,Bool.and_eq_true,Bool.and_eq_true,cellFrom_iff N g at' j]
  simp only [decide_eq_true_eq]
  constructor
  ·rintro (h | h | ⟨u,h1,h2,h3⟩)
   ·exact ⟨k,Nat.le_refl _,by omega,.inl h⟩
   ·exact ⟨k,Nat.le_refl _,by omega,.inr h⟩
   ·exact ⟨u,by omega,by omega,h3⟩
  ·rintro ⟨u,h1,h2,h3⟩
   by_cases e:u=k
   ·subst e
    rcases h3 with h3 | h3
    ·exact .inl h3
    ·exact .inr (.inl h3)
   ·exact .inr (.inr ⟨u,by omega,by omega,h3⟩)
def cellFitsV (n:Int) (vs:List V) (g:List Int) (at':Nat):Bool:=!cellFrom n.toNat g at' 0 n.toNat && vs.all fun r=>!r.2.1.contains (at':Int) || canHoldV n g r
theorem cell_clash {n:Int} (hn:2 ≤ n∧n ≤ 4) {g:List Int} (hl:g.length=n.toNat * n.toNat) {at':Nat} (ha:at' < g.length) {v:Int} (hv:1 ≤ v) (hc:clash g n=false) (h0:g.getD at' 0=0):clash (g.set at' v) n=cellFrom n.toNat (g.set at' v) at' 0 n.toNat:=by
 have hat:(g.set at' v).getD at' 0=v:=by rw [getD_set,if_pos ⟨rfl,ha⟩]
 have hne:∀ x,x ≠ at'→(g.set at' v).getD x 0=g.getD x 0:=fun x hx=>by rw [getD_set,if_neg (by omega)]
 have hno:¬ ∃ x y:Nat,x < n.toNat * n.toNat∧y < n.toNat * n.toNat∧x ≠ y∧sameLine n.toNat x y∧0 < g.getD x 0∧g.getD y 0=g.getD x 0:=by
  intro h; rw [← clash_iff hn] at h; rw [h] at hc; cases hc
 rw [Bool.eq_iff_iff,clash_iff hn,cellFrom_iff,hat]
 have one:∀ x,x < n.toNat * n.toNat→x ≠ at'→sameLine n.toNat at' x→(g.set at' v).getD x 0=v→∃ u,0 ≤ u∧u < 0 + n.toNat∧((at' / n.toNat * n.toNat + u ≠ at'∧(g.set at' v).getD (at' / n.toNat * n.toNat + u) 0=v) ∨ (u * n.toNat + at' % n.toNat ≠ at'∧(g.set at' v).getD (u * n.toNat + at' % n.toNat) 0=v)):=by
  intro x hx hxa hs hgx
  rcases hs with hs | hs
  ·refine ⟨x % n.toNat,Nat.zero_le _,by have:=Nat.mod_lt x (show n.toNat > 0 by omega); omega,.inl ?_⟩
   have e:at' / n.toNat * n.toNat + x % n.toNat=x:=by rw [hs,Nat.mul_comm]; exact Nat.div_add_mod x n.toNat
   rw [e]; exact ⟨hxa,hgx⟩
  ·refine ⟨x / n.toNat,Nat.zero_le _,by have:=Nat.div_lt_of_lt_mul hx; omega,.inr ?_⟩
   have e:x / n.toNat * n.toNat + at' % n.toNat=x:=by rw [hs,Nat.mul_comm]; exact Nat.div_add_mod x n.toNat
   rw [e]; exact ⟨hxa,hgx⟩
 constructor
 ·rintro ⟨x,y,hx,hy,hxy,hs,h1,h2⟩
  by_cases ex:x=at'
  ·subst ex
   rw [hat] at h2
   exact one y hy (Ne.symm hxy) hs h2
  ·by_cases ey:y=at'
   ·subst ey
    rw [hat] at h2
    exact one x hx ex (by rcases hs with h | h; exact .inl h.symm; exact .inr h.symm) h2.symm
   ·rw [hne x ex] at h1 h2
    rw [hne y ey] at h2
    exact absurd ⟨x,y,hx,hy,hxy,hs,h1,h2⟩ hno
 ·rintro ⟨u,_,hu,h⟩
  have hdm:=Nat.div_add_mod at' n.toNat
  have hmul:n.toNat * (at' / n.toNat)=at' / n.toNat * n.toNat:=Nat.mul_comm _ _
  have:n=2 ∨ n=3 ∨ n=4:=by omega
  rcases h with ⟨h1,h2⟩ | ⟨h1,h2⟩
  ·refine ⟨at',at' / n.toNat * n.toNat + u,by omega,?_,Ne.symm h1,.inl ?_,by rw [hat]; omega,by rw [hat,h2]⟩
   all_goals
    rcases this with rfl | rfl | rfl <;> try simp only [zt2,zt3,zt4] at * <;> omega
  ·refine ⟨at',u * n.toNat + at' % n.toNat,by omega,?_,Ne.symm h1,.inr ?_,by rw [hat]; omega,by rw [hat,h2]⟩
   all_goals
    rcases this with rfl | rfl | rfl <;> try simp only [zt2,zt3,zt4] at * <;> omega
theorem own_away {n:Int} {g:List Int} {at':Nat} {v:Int} {cells:List Int} (hc:¬ (at':Int) ∈ cells) (hp:∀ c ∈ cells,0 ≤ c):ownOf (openOf n (g.set at' v)) cells=ownOf (openOf n g) cells:=by
 unfold ownOf
 refine List.map_congr_left fun c hm=>?_
 have hne:at' ≠ c.toNat:=fun e=>hc (by have:=hp c hm; rw [show (at':Int)=c by omega]; exact hm)
 unfold gv openOf
 rw [List.getD_eq_getElem?_getD,List.getD_eq_getElem?_getD,List.getElem?_map,List.getElem?_map,List.getElem?_set_ne hne]
theorem fits_step {n:Int} {given:List Int} {vs:List V} {g:List Int} (hf:fitsV n given vs g=true) (hg:gridOk g n=true) (hle:Le given g) (hgg:∀ x,0 ≤ given.getD x 0) {at':Nat} (ha:at' < g.length) (h0:g.getD at' 0=0) {v:Int} (hv:1 ≤ v∧v ≤ n) (hro:∀ r ∈ vs,ruleOkV n r=true) :
  fitsV n given vs (g.set at' v)=cellFitsV n vs (g.set at' v) at':=by
 obtain ⟨hn,h2,_⟩:=(gridOk_iff g n).1 hg
 unfold fitsV at hf ⊢
 simp only [Bool.and_eq_true,Bool.not_eq_true',List.all_eq_true] at hf
 obtain ⟨f1,f2,f3⟩:=hf
 have hl:g.length=n.toNat * n.toNat:=by
  have:n=2 ∨ n=3 ∨ n=4:=by omega
  rcases this with rfl | rfl | rfl <;> simp <;> omega
 have hc:compatB given (g.set at' v)=true:=by
  rw [compatB_iff] at f1 ⊢
  intro x hx h1 h3
  rw [getD_set] at h3 ⊢
  have hx':x < g.length:=by simpa using hx
  by_cases e:at'=x
  ·subst e
   rcases hle.2 at' with e | e <;> omega
  ·rw [if_neg (by omega)] at h3 ⊢; exact f1 x hx' h1 h3
 unfold cellFitsV
 rw [hc,Bool.true_and,cell_clash hn hl ha hv.1 f3 h0,Bool.and_comm]
 congr 1
 rw [Bool.eq_iff_iff,List.all_eq_true,List.all_eq_true]
 refine forall_congr' fun r=>forall_congr' fun hr=>?_
 by_cases hm:(at':Int) ∈ r.2.1
 ·have:r.2.1.contains (at':Int)=true:=List.contains_iff_mem.2 hm
  rw [this]; simp
 ·have:r.2.1.contains (at':Int)=false:=by rw [← Bool.not_eq_true,List.contains_iff_mem]; exact hm
  rw [this]
  have e:canHoldV n (g.set at' v) r=canHoldV n g r:=by
   unfold canHoldV
   rw [own_away hm fun c h=>((ruleOk_cells (hro r hr)).1 c h).1]
  rw [e,f2 r hr]; simp
theorem ext_getD {a b:List Int} (hl:a.length=b.length) (h:∀ i,i < a.length→a.getD i 0=b.getD i 0):a=b:=by
 apply List.ext_getElem hl
 intro i h1 h2
 have:=h i h1
 rw [List.getD_eq_getElem?_getD,List.getElem?_eq_getElem h1,List.getD_eq_getElem?_getD,List.getElem?_eq_getElem h2] at this
 exact this
theorem grid_set'' {g:List Int} {n:Int} (h:gridOk g n=true) (i:Nat) (v:Int) (hv:0 ≤ v∧v ≤ n):gridOk (g.set i v) n=true:=by
 obtain ⟨h1,h2,h3⟩:=(gridOk_iff g n).1 h
 refine (gridOk_iff _ n).2 ⟨h1,by simpa using h2,fun x hx=>?_⟩
 rcases List.mem_or_eq_of_mem_set hx with h | h
 ·exact h3 x h
 ·subst h; exact hv
theorem Le.up {g x:List Int} (h:Le g x) {i:Nat} (hi:i < g.length):Le (g.set i (x.getD i 0)) x:=⟨by simpa using h.1,fun j=>by
 rw [getD_set]
 split
 ·rename_i e; right; rw [e.1]
 ·exact h.2 j⟩
theorem Le.set {g:List Int} {i:Nat} (h0:g.getD i 0=0) (v:Int):Le g (g.set i v):=⟨by simp,fun j=>by
 rw [getD_set]
 split
 ·rename_i e; left; rw [← e.1]; exact h0
 ·exact .inr rfl⟩
def full (x:List Int):Prop:=∀ i,i < x.length→0 < x.getD i 0
theorem mem_sols {n:Int} {f:List Int→Bool} (hf:∀ g' g,Le g' g→gridOk g n=true→f g=true→f g'=true):∀ (rem:Nat) (g:List Int),rem ≤ g.length→gridOk g n=true→(∀ i,i < g.length - rem→0 < g.getD i 0)→f g=true→∀ x,x ∈ sols f n.toNat rem g ↔ gridOk x n=true∧Le g x∧full x∧f x=true:=by
 intro rem
 induction rem with
 | zero=>
  intro g hr hg hfu hfg x
  rw [sols,List.mem_singleton]
  constructor
  ·rintro rfl
   exact ⟨hg,Le.refl _,fun i hi=>hfu i (by omega),hfg⟩
  ·rintro ⟨h1,h2,h3,h4⟩
   refine (ext_getD h2.1 fun i hi=>?_).symm
   have:=hfu i (by omega)
   rcases h2.2 i with e | e
   ·omega
   ·exact e
 | succ rem ih=>
  intro g hr hg hfu hfg x
  have hat:g.length - (rem + 1) < g.length:=by omega
  obtain ⟨hn,h2,h3⟩:=(gridOk_iff g n).1 hg
  by_cases c:0 < g.getD (g.length - (rem + 1)) 0
  ·rw [sols,if_pos c]
   refine ih g (by omega) hg (fun i hi=>?_) hfg x
   by_cases e:i=g.length - (rem + 1)
   ·rw [e]; exact c
   ·exact hfu i (by omega)
  ·rw [sols,if_neg c,List.mem_flatMap]
   have hv:=h3 _ (mem_getD hat)
   have h0:g.getD (g.length - (rem + 1)) 0=0:=by omega
   have go:∀ v,1 ≤ v∧v ≤ n→f (g.set (g.length - (rem + 1)) v)=true→(x ∈ sols f n.toNat rem (g.set (g.length - (rem + 1)) v) ↔ gridOk x n=true∧Le (g.set (g.length - (rem + 1)) v) x∧full x∧f x=true):=fun v hv1 hfv=>by
    refine ih _ (by simp; omega) (grid_set'' hg _ v ⟨by omega,by omega⟩) (fun i hi=>?_) hfv x
    rw [List.length_set] at hi
    rw [getD_set]
    split
    ·omega
    ·rename_i e
     exact hfu i (by omega)
   constructor
   ·rintro ⟨v,hv1,hx⟩
    rw [mem_upto] at hv1
    split at hx
    ·rename_i hfv
     obtain ⟨q1,q2,q3,q4⟩:=(go v (by omega) hfv).1 hx
     exact ⟨q1,(Le.set h0 v).trans q2,q3,q4⟩
    ·cases hx
   ·rintro ⟨q1,q2,q3,q4⟩
    obtain ⟨_,l2,l3⟩:=(gridOk_iff x n).1 q1
    have hlx:g.length - (rem + 1) < x.length:=by rw [← q2.1]; exact hat
    have hxv:=l3 _ (mem_getD hlx)
    have hxp:=q3 _ hlx
    have hup:=q2.up hat
    have hfv:=hf _ _ hup q1 q4
    refine ⟨x.getD (g.length - (rem + 1)) 0,(mem_upto _ _ _).2 (by omega),?_⟩
    rw [if_pos hfv]
    exact (go _ (by omega) hfv).2 ⟨q1,hup,q3,q4⟩
theorem puzzleV_grid {n:Int} {given:List Int} {vs:List V} (h:puzzleV n given vs=true):gridOk given n=true∧vs.all (ruleOkV n)=true:=by
 unfold puzzleV at h
 simp only [Bool.and_eq_true] at h
 exact ⟨h.1,h.2.2⟩
theorem mem_allSols {n:Int} {given:List Int} {vs:List V} (hp:puzzleV n given vs=true) (x:List Int):x ∈ allSols n given vs ↔ gridOk x n=true∧Le given x∧full x∧fitsV n given vs x=true:=by
 obtain ⟨hg,hv⟩:=puzzleV_grid hp
 have anti:∀ g' g,Le g' g→gridOk g n=true→fitsV n given vs g=true→fitsV n given vs g'=true:=fun g' g h1 h2 h3=>fits_anti h1 h2 hv h3
 unfold allSols
 by_cases c:puzzleFitsV n given vs given=true
 ·rw [if_pos c]
  have c':=c
  unfold puzzleFitsV at c'
  simp only [Bool.and_eq_true] at c'
  exact mem_sols anti _ _ (Nat.le_refl _) hg (fun i hi=>by omega) c'.2.2 x
 ·rw [if_neg c]
  constructor
  ·intro h; cases h
  ·rintro ⟨h1,h2,h3,h4⟩
   refine absurd ?_ c
   unfold puzzleFitsV
   rw [hp,hg,anti _ _ h2 h1 h4]; rfl

def LexLt (x y:List Int):Prop:=∃ i,(∀ j,j < i→x.getD j 0=y.getD j 0)∧x.getD i 0 < y.getD i 0
theorem LexLt.asymm {x y:List Int} (h:LexLt x y) (h':LexLt y x):False:=by
 obtain ⟨i,h1,h2⟩:=h
 obtain ⟨j,h3,h4⟩:=h'
 rcases Nat.lt_trichotomy i j with e | e | e
 ·have:=h3 i e; omega
 ·subst e; omega
 ·have:=h1 j e; omega
theorem upto_lt:∀ (j:Nat) (v:Int),(upto j v).Pairwise (fun a b=>a < b)
 | 0,v=>List.Pairwise.nil
 | j + 1,v=>by
  rw [upto]
  refine List.Pairwise.cons (fun w hw=>?_) (upto_lt j (v + 1))
  rw [mem_upto] at hw; omega
theorem sols_lt {n:Int} {f:List Int→Bool} (hf:∀ g' g,Le g' g→gridOk g n=true→f g=true→f g'=true):∀ (rem:Nat) (g:List Int),rem ≤ g.length→gridOk g n=true→(∀ i,i < g.length - rem→0 < g.getD i 0)→f g=true→(sols f n.toNat rem g).Pairwise LexLt:=by
 intro rem
 induction rem with
 | zero=>intro g hr hg hfu hfg; rw [sols]; simp
 | succ rem ih=>
  intro g hr hg hfu hfg
  have hat:g.length - (rem + 1) < g.length:=by omega
  obtain ⟨hn,h2,h3⟩:=(gridOk_iff g n).1 hg
  by_cases c:0 < g.getD (g.length - (rem + 1)) 0
  ·rw [sols,if_pos c]
   refine ih g (by omega) hg (fun i hi=>?_) hfg
   by_cases e:i=g.length - (rem + 1)
   ·rw [e]; exact c
   ·exact hfu i (by omega)
  ·rw [sols,if_neg c]
   have fill:∀ v,1 ≤ v∧v ≤ n→∀ i,i < (g.set (g.length - (rem + 1)) v).length - rem→0 < (g.set (g.length - (rem + 1)) v).getD i 0:=fun v hv1 i hi=>by
    rw [List.length_set] at hi
    rw [getD_set]
    split
    ·omega
    ·rename_i e
     exact hfu i (by omega)
   rw [List.pairwise_flatMap]
   constructor
   ·intro v hv1
    rw [mem_upto] at hv1
    split
    ·rename_i hfv
     exact ih _ (by simp; omega) (grid_set'' hg _ v ⟨by omega,by omega⟩) (fill v (by omega)) hfv
    ·exact List.Pairwise.nil
   ·refine List.Pairwise.imp_of_mem (fun {a b} ha hb hab x hx y hy=>?_) (upto_lt n.toNat 1)
    rw [mem_upto] at ha hb
    split at hx
    ·rename_i hfa
     split at hy
     ·rename_i hfb
      have m1:=((mem_sols hf rem _ (by simp; omega) (grid_set'' hg _ a ⟨by omega,by omega⟩) (fill a (by omega)) hfa x).1 hx).2.1
      have m2:=((mem_sols hf rem _ (by simp; omega) (grid_set'' hg _ b ⟨by omega,by omega⟩) (fill b (by omega)) hfb y).1 hy).2.1
      refine ⟨g.length - (rem + 1),fun j hj=>?_,?_⟩
      ·have p:=hfu j hj
       have e1:=m1.2 j
       have e2:=m2.2 j
       rw [getD_set,if_neg (by omega)] at e1 e2
       omega
      ·have e1:=m1.2 (g.length - (rem + 1))
       have e2:=m2.2 (g.length - (rem + 1))
       rw [getD_set,if_pos ⟨rfl,hat⟩] at e1 e2
       omega
     ·cases hy
    ·cases hx
theorem allSols_lt {n:Int} {given:List Int} {vs:List V} (hp:puzzleV n given vs=true):(allSols n given vs).Pairwise LexLt:=by
 obtain ⟨hg,hv⟩:=puzzleV_grid hp
 unfold allSols
 by_cases c:puzzleFitsV n given vs given=true
 ·rw [if_pos c]
  unfold puzzleFitsV at c
  simp only [Bool.and_eq_true] at c
  exact sols_lt (fun g' g h1 h2 h3=>fits_anti h1 h2 hv h3) _ _ (Nat.le_refl _) hg (fun i hi=>by omega) c.2.2
 ·rw [if_neg c]; exact List.Pairwise.nil
theorem filled_eq {g:List Int}:filled g=g.length ↔ full g:=by
 unfold filled full
 rw [List.countP_eq_length]
 constructor
 ·intro h i hi; simpa using h _ (mem_getD hi)
 ·intro h v hv
  obtain ⟨i,hi,rfl⟩:=List.getElem_of_mem hv
  have:=h i hi
  rw [List.getD_eq_getElem?_getD,List.getElem?_eq_getElem hi] at this
  simpa using this
theorem solved_iff {n:Int} {given:List Int} {vs:List V} (hp:puzzleV n given vs=true) (x:List Int):puzzleSolvedV n given vs x=true ↔ x ∈ allSols n given vs:=by
 rw [mem_allSols hp]
 obtain ⟨hg,_⟩:=puzzleV_grid hp
 unfold puzzleSolvedV puzzleFitsV
 simp only [Bool.and_eq_true,decide_eq_true_eq,hp,true_and,filled_eq]
 constructor
 ·rintro ⟨⟨a,b⟩,c⟩
  refine ⟨a,⟨by have:=grid_len_eq hg a; exact this,fun i=>?_⟩,c,b⟩
  unfold fitsV at b
  simp only [Bool.and_eq_true] at b
  have b1:=b.1
  rw [compatB_iff] at b1
  have hl:=grid_len_eq hg a
  by_cases hi:i < x.length
  ·by_cases h0:given.getD i 0=0
   ·exact .inl h0
   ·right
    have hv:=((gridOk_iff given n).1 hg).2.2 _ (mem_getD (show i < given.length by omega))
    exact (b1 i hi (by omega) (c i hi)).symm
  ·left
   rw [List.getD_eq_getElem?_getD,List.getElem?_eq_none (by omega)]; rfl
 ·rintro ⟨a,b,c,d⟩
  exact ⟨⟨a,d⟩,c⟩
theorem maskOk_iff {n m:Int}:maskOk n m=true ↔ (0 ≤ m∧m ≤ topMask n)∧m.tmod 2=0:=by
 unfold maskOk
 simp
theorem tab_top:∀ n:Nat,n < 5→∀ m:Nat,m < 32→∀ w:Nat,w < 5→(2 ≤ n∧(m:Int) ≤ topMask n∧n < w)→m.testBit w=false:=by decide +kernel
theorem mv_top {n m:Int} (hn:2 ≤ n∧n ≤ 4) (hm:maskOk n m=true) {w:Int} (h:w ∈ maskVals m):1 ≤ w∧w ≤ n:=by
 obtain ⟨h1,h2⟩:=maskOk_iff.1 hm
 have ht:=topMask_le n
 have h0:=maskVals_mem h
 refine ⟨h0.1,?_⟩
 rw [mem_maskVals ⟨h1.1,by omega⟩ h2] at h
 apply Classical.byContradiction
 intro hc
 have hM:=maskOk_M hm
 obtain ⟨a,rfl,ha⟩:=hM.nat
 have e:=h.2
 unfold has at e
 rw [Int.toNat_natCast,tab_top n.toNat (by omega) a ha w.toNat (by omega) ⟨by omega,by rw [show ((n.toNat:Nat):Int)=n by omega]; exact h1.2,by omega⟩] at e
 cases e
def InM (l g:List Int):Prop:=∀ i,i < g.length→has (l.getD i 0) (g.getD i 0).toNat=true
theorem masks_at {n:Int} {l:List Int} (h:masksOk n l=true) {i:Nat} (hi:i < l.length):maskOk n (l.getD i 0)=true:=(masksOk_iff.1 h).2.1 _ (mem_getD hi)
def SubM (a b:List Int):Prop:=a.length=b.length∧∀ i v:Nat,i < b.length→has (a.getD i 0) v=true→has (b.getD i 0) v=true
theorem SubM.refl (a:List Int):SubM a a:=⟨rfl,fun _ _ _ h=>h⟩
theorem SubM.trans {a b c:List Int} (h:SubM a b) (h':SubM b c):SubM a c:=⟨h.1.trans h'.1,fun i v hi hv=>h'.2 i v hi (h.2 i v (by rw [h'.1]; exact hi) hv)⟩
theorem InM.up {a b g:List Int} (h:InM a g) (hs:SubM a b) (hl:g.length=b.length):InM b g:=fun i hi=>hs.2 i _ (by omega) (h i hi)
theorem or_of_sub {a b:Nat} (h:∀ v:Nat,a.testBit v=true→b.testBit v=true):a ||| b=b:=by
 refine Nat.eq_of_testBit_eq fun v=>?_
 rw [Nat.testBit_or]
 cases e:a.testBit v with
 | false=>simp
 | true=>rw [h v e]; rfl
theorem tab_even:∀ a:Nat,a < 32→∀ b:Nat,b < 32→a ||| b=b→((b:Int)).tmod 2=0→((a:Int)).tmod 2=0:=by decide +kernel
theorem mask_sub {n a b:Int} (ha:M a) (hb:maskOk n b=true) (h:∀ v:Nat,has a v=true→has b v=true):maskOk n a=true:=by
 obtain ⟨h1,h2⟩:=maskOk_iff.1 hb
 have hM:=maskOk_M hb
 obtain ⟨x,rfl,hx⟩:=ha.nat
 obtain ⟨y,rfl,hy⟩:=hM.nat
 have e:x ||| y=y:=or_of_sub fun v hv=>h v (by unfold has; rw [Int.toNat_natCast]; exact hv)
 have hle:x ≤ y:=by rw [← e]; exact Nat.left_le_or
 exact maskOk_iff.2 ⟨⟨by omega,by omega⟩,tab_even x hx y hy e h2⟩
theorem Sub.subM {l l':List Int} {P:Nat→Nat→Prop} (h:Sub l l' P):SubM l' l:=⟨h.len,fun i v hi hv=>((h.has i v hi).1 hv).1⟩
theorem masks_subM {n:Int} {a b:List Int} (ha:Ms a) (hb:masksOk n b=true) (h:SubM a b):masksOk n a=true:=by
 obtain ⟨h1,h2,h3⟩:=masksOk_iff.1 hb
 refine masksOk_iff.2 ⟨h1,fun m hm=>?_,by rw [h.1]; exact h3⟩
 obtain ⟨i,hi,rfl⟩:=List.getElem_of_mem hm
 have e:a.getD i 0=a[i]:=by simp [List.getD_eq_getElem?_getD,hi]
 have hib:i < b.length:=by rw [← h.1]; exact hi
 rw [← e]
 exact mask_sub (ha.at i) (masks_at hb hib) fun v hv=>h.2 i v hib hv
theorem Sub.ok {n:Int} {l l':List Int} {P:Nat→Nat→Prop} (h:Sub l l' P) (hl:masksOk n l=true):masksOk n l'=true:=masks_subM h.ms hl h.subM
def NilOr (H0 H:Hp) (t:Sl) (l:List Int):Prop:=(t=Sl.none∧l=[]) ∨ Own 1 H0 H t (l.map (.int .i64))
theorem NilOr.reads {H0 H:Hp} {t:Sl} {l:List Int} (h:NilOr H0 H t l):Reads .i64 H t l:=by
 rcases h with ⟨h1,h2⟩ | h
 ·subst h1; subst h2; exact reads_nil rfl
 ·exact own_reads h
theorem NilOr.pf {H0 H H':Hp} {t:Sl} {l:List Int} (h:NilOr H0 H t l) (g:H <+: H'):NilOr H0 H' t l:=by
 rcases h with h | h
 ·exact .inl h
 ·exact .inr (own_pf h g)
theorem NilOr.base {H0 H1 H:Hp} {t:Sl} {l:List Int} (h:NilOr H1 H t l) (g:H0 <+: H1):NilOr H0 H t l:=by
 rcases h with h | h
 ·exact .inl h
 ·exact .inr (own_base h g)
theorem NilOr.nn {H0 H:Hp} {t:Sl} {l:List Int} (h:NilOr H0 H t l) (hl:l ≠ []):t.nil=false:=by
 rcases h with ⟨_,h⟩ | h
 ·exact absurd h hl
 ·exact h.nn
theorem all_getD {p:Int→Bool} {l:List Int} {i:Nat} (h:i < l.length):(l.drop i).all p=(p (l.getD i 0) && (l.drop (i + 1)).all p):=by
 rw [List.drop_eq_getElem_cons h,List.all_cons,List.getD_eq_getElem?_getD,List.getElem?_eq_getElem h]; rfl
theorem tab_andnot:∀ n:Nat,n < 5→∀ m:Nat,m < 64→(n < 2 ∨ ((IntKind.i64.wrap (((BitVec.ofInt IntKind.i64.bits ((m:Nat):Int) &&& ~~~(BitVec.ofInt IntKind.i64.bits (topMask n))).toNat:Int))) != 0)=!maskOk n m):=by decide +kernel
theorem implMasksValid_l2 {k:Nat} (hk:1 ≤ k) {n:Int} (hn:2 ≤ n∧n ≤ 4) {H:Hp} {s:Sl} {l:List Int} (hs:Reads .i64 H s l) (hl:l.length ≤ 1000) (hr:∀ m ∈ l,-2 ≤ m∧m ≤ 63) :
  ∀ (j i fuel:Nat),i + j=l.length→j < fuel→impl_MasksValid.l2 (callF PP orc k) k fuel n s (l.length:Int) i H=some (.bool ((l.drop i).all (maskOk n)),H):=by
 have hsl:=hs.len
 intro j
 induction j with
 | zero=>
  intro i fuel hi hf
  obtain ⟨fuel,rfl⟩:=Zs fuel (by omega)
  rw [List.drop_eq_nil_of_le (by omega)]
  simp (disch:=omega) only [impl_MasksValid.l2,dt,df,bt,bf,nt,nf,Za,Zy,Zx,Zt,Zf,Zn,Zz,Zi,Zo,wr,AV.toB,AV.toI,AV.toS,if_true,List.all_nil]
 | succ j ih=>
  intro i fuel hi hf
  obtain ⟨fuel,rfl⟩:=Zs fuel (by omega)
  have hi2:i < l.length:=by omega
  have hm:=hr _ (mem_getD hi2)
  have d1:=ih (i + 1) fuel (by omega) (by omega)
  push_cast at d1
  rw [all_getD hi2]
  by_cases c:l.getD i 0 < 0
  ·have e:maskOk n (l.getD i 0)=false:=by
    rw [Bool.eq_false_iff]; intro h; have:=(maskOk_iff.1 h).1; omega
   rw [e,Bool.false_and]
   simp (disch:=omega) only [impl_MasksValid.l2,impl_MasksValid.j3,dt,df,bt,bf,nt,nf,Za,Zy,Zx,Zt,Zf,Zn,Zz,Zi,Zo,wr,AV.toB,AV.toI,AV.toS,if_true,rdn hs]
  ·have ht:=tab_andnot n.toNat (by omega) (l.getD i 0).toNat (by omega)
   rw [show ((n.toNat:Nat):Int)=n by omega,show (((l.getD i 0).toNat:Nat):Int)=l.getD i 0 by omega] at ht
   have ht':=ht.resolve_left (by omega)
   cases e:maskOk n (l.getD i 0) with
   | false=>
    rw [e] at ht'
    simp (disch:=omega) only [impl_MasksValid.l2,impl_MasksValid.j3,dt,df,bt,bf,nt,nf,Za,Zy,Zx,Zt,Zf,Zn,Zz,Zi,Zo,wr,AV.toB,AV.toI,AV.toS,if_true,rdn hs,allValues_ok hk hn,ht',Bool.false_and]
   | true=>
    rw [e] at ht'
    simp (disch:=omega) only [impl_MasksValid.l2,impl_MasksValid.j3,impl_MasksValid.j4,dt,df,bt,bf,nt,nf,Za,Zy,Zx,Zt,Zf,Zn,Zz,Zi,Zo,wr,AV.toB,AV.toI,AV.toS,if_true,rdn hs,allValues_ok hk hn,ht',Bool.true_and,d1]
theorem implMasksValid_ok {k:Nat} (hk:2000000 ≤ k) {n:Int} (hb:-1 ≤ n∧n ≤ 5) {H:Hp} {s:Sl} {l:List Int} (hs:Reads .i64 H s l) (hl:l.length ≤ 1000) (hr:∀ m ∈ l,-2 ≤ m∧m ≤ 63) :
  callF PP orc k impl_MasksValid.id [.sl 1 s,.int .i64 n] H=some (.bool (masksOk n l),H):=by
 obtain ⟨k,rfl⟩:=Zs k (by omega)
 rw [impl_MasksValid.call]
 have hsl:=hs.len
 have h1:=sizeOk_ok (show 1 ≤ k by omega) n H
 have h7:=n7 hb
 unfold masksOk
 by_cases hn:2 ≤ n∧n ≤ 4
 ·rw [decide_eq_true hn] at h1 ⊢
  by_cases c:(l.length:Int)=n * n
  ·have d1:=implMasksValid_l2 (show 1 ≤ k by omega) hn hs hl hr l.length 0 k (by omega) (by omega)
   simp only [Int.natCast_zero,List.drop_zero] at d1
   rw [decide_eq_true c,Bool.and_true,Bool.true_and]
   simp (disch:=omega) only [impl_MasksValid.f,impl_MasksValid.j0,impl_MasksValid.j1,dt,df,bt,bf,nt,nf,Za,Zy,Zx,Zt,Zf,Zn,Zz,Zi,Zo,wr,AV.toB,AV.toI,AV.toS,if_true,h1,hsl,wr (n:=n * n),nf c,d1]
  ·rw [decide_eq_false c,Bool.and_false,Bool.and_false]
   simp (disch:=omega) only [impl_MasksValid.f,impl_MasksValid.j0,impl_MasksValid.j1,dt,df,bt,bf,nt,nf,Za,Zy,Zx,Zt,Zf,Zn,Zz,Zi,Zo,wr,AV.toB,AV.toI,AV.toS,if_true,h1,hsl,wr (n:=n * n),nt c]
 ·rw [decide_eq_false hn] at h1 ⊢
  rw [Bool.false_and]
  simp only [impl_MasksValid.f,impl_MasksValid.j0,dt,df,bt,bf,nt,nf,Za,Zy,Zx,Zt,Zf,Zn,Zz,Zi,Zo,wr,AV.toB,AV.toI,AV.toS,if_true,h1]
theorem Equal_l0 (rec:Rec) (k:Nat) {H:Hp} {s t:Sl} {x y:List Int} (hs:Reads .i64 H s x) (ht:Reads .i64 H t y) (hl:x.length=y.length) (h1:x.length ≤ 1000) :
  ∀ (j i fuel:Nat),i + j=x.length→j < fuel→slices_Equal_int.l0 rec k fuel s t (x.length:Int) i H=some (.bool (decide (x.drop i=y.drop i)),H):=by
 have hsl:=hs.len
 have htl:=ht.len
 intro j
 induction j with
 | zero=>
  intro i fuel hi hf
  obtain ⟨fuel,rfl⟩:=Zs fuel (by omega)
  rw [List.drop_eq_nil_of_le (show x.length ≤ i by omega),List.drop_eq_nil_of_le (show y.length ≤ i by omega)]
  simp (disch:=omega) only [slices_Equal_int.l0,dt,df,bt,bf,nt,nf,Za,Zy,Zx,Zt,Zf,Zn,Zz,Zi,Zo,wr,AV.toB,AV.toI,AV.toS,if_true]
  rfl
 | succ j ih=>
  intro i fuel hi hf
  obtain ⟨fuel,rfl⟩:=Zs fuel (by omega)
  have hx:i < x.length:=by omega
  have hy:i < y.length:=by omega
  have ex:x.drop i=x.getD i 0 :: x.drop (i + 1):=by
   rw [List.drop_eq_getElem_cons hx,List.getD_eq_getElem?_getD,List.getElem?_eq_getElem hx]; rfl
  have ey:y.drop i=y.getD i 0 :: y.drop (i + 1):=by
   rw [List.drop_eq_getElem_cons hy,List.getD_eq_getElem?_getD,List.getElem?_eq_getElem hy]; rfl
  rw [ex,ey]
  by_cases c:x.getD i 0=y.getD i 0
  ·have d1:=ih (i + 1) fuel (by omega) (by omega)
   push_cast at d1
   rw [show decide (x.getD i 0 :: x.drop (i + 1)=y.getD i 0 :: y.drop (i + 1))=decide (x.drop (i + 1)=y.drop (i + 1)) by rw [c]; simp,← d1]
   simp (disch:=omega) only [slices_Equal_int.l0,dt,df,bt,bf,nt,nf,Za,Zy,Zx,Zt,Zf,Zn,Zz,Zi,Zo,wr,AV.toB,AV.toI,AV.toS,if_true,rdn hs,rdn ht,nf]
  ·rw [show decide (x.getD i 0 :: x.drop (i + 1)=y.getD i 0 :: y.drop (i + 1))=false from decide_eq_false fun h=>c (List.cons.inj h).1]
   simp (disch:=omega) only [slices_Equal_int.l0,dt,df,bt,bf,nt,nf,Za,Zy,Zx,Zt,Zf,Zn,Zz,Zi,Zo,wr,AV.toB,AV.toI,AV.toS,if_true,rdn hs,rdn ht,nt]
theorem Equal_ok {k:Nat} (hk:2000000 ≤ k) {H:Hp} {s t:Sl} {x y:List Int} (hs:Reads .i64 H s x) (ht:Reads .i64 H t y) (h1:x.length ≤ 1000) (h2:y.length ≤ 1000) :
  callF PP orc k slices_Equal_int.id [.sl 1 s,.sl 1 t] H=some (.bool (decide (x=y)),H):=by
 obtain ⟨k,rfl⟩:=Zs k (by omega)
 rw [slices_Equal_int.call]
 have hsl:=hs.len
 have htl:=ht.len
 by_cases c:x.length=y.length
 ·have d1:=Equal_l0 (callF PP orc k) k hs ht c h1 x.length 0 k (by omega) (by omega)
  simp only [Int.natCast_zero,List.drop_zero] at d1
  rw [← d1,← hsl]
  simp (disch:=omega) only [slices_Equal_int.f,dt,df,bt,bf,nt,nf,Za,Zy,Zx,Zt,Zf,Zn,Zz,Zi,Zo,wr,AV.toB,AV.toI,AV.toS,if_true]
 ·rw [decide_eq_false (fun h=>c (congrArg List.length h))]
  simp (disch:=omega) only [slices_Equal_int.f,dt,df,bt,bf,nt,nf,Za,Zy,Zx,Zt,Zf,Zn,Zz,Zi,Zo,wr,AV.toB,AV.toI,AV.toS,if_true]
/-! ### The only value of a mask -/
def ovFrom (m:Int):Int→Nat→Int
 | _,0=>0
 | v,j + 1=>if m=pw v then v else ovFrom m (v + 1) j
def oneOf (m:Int):Int:=if (maskVals m).length=1 then (maskVals m).headD 0 else 0
theorem tab_ov:∀ a:Nat,a < 16→ovFrom ((2 * a:Nat):Int) 1 4=oneOf ((2 * a:Nat):Int):=by decide +kernel
theorem ov_one {n m:Int} (hm:maskOk n m=true):ovFrom m 1 4=oneOf m:=by
 obtain ⟨h1,h2⟩:=maskOk_iff.1 hm
 have ht:=topMask_le n
 obtain ⟨a,ha,ha16⟩:∃ a:Nat,m=((2 * a:Nat):Int)∧a < 16:=⟨(m / 2).toNat,by rw [Int.tmod_eq_emod_of_nonneg h1.1] at h2; omega,by omega⟩
 rw [ha]; exact tab_ov a ha16
theorem onlyValue_l0 (rec:Rec) (k:Nat) {m:Int} {H:Hp}:∀ (j fuel:Nat) (v:Int),v + j=5→1 ≤ v→j < fuel→impl_onlyValue.l0 rec k fuel m v H=some (.int .i64 (ovFrom m v j),H):=by
 intro j
 induction j with
 | zero=>
  intro fuel v hv h1 hf
  obtain ⟨fuel,rfl⟩:=Zs fuel (by omega)
  simp (disch:=omega) only [impl_onlyValue.l0,dt,df,bt,bf,nt,nf,Za,Zy,Zx,Zt,Zf,Zn,Zz,Zi,Zo,wr,AV.toB,AV.toI,AV.toS,if_true,ovFrom]
 | succ j ih=>
  intro fuel v hv h1 hf
  obtain ⟨fuel,rfl⟩:=Zs fuel (by omega)
  by_cases c:m=pw v
  ·rw [ovFrom,if_pos c]
   simp (disch:=omega) only [impl_onlyValue.l0,dt,Zt,iN,m_shl (v:=v),bt c]
  ·rw [ovFrom,if_neg c]
   have d1:=ih fuel (v + 1) (by omega) (by omega) (by omega)
   simp (disch:=omega) only [impl_onlyValue.l0,dt,Zt,Zf,iN,m_shl (v:=v),bf c,wr (n:=v + 1),d1]
theorem onlyValue_ok {k:Nat} (hk:2000000 ≤ k) {n m:Int} (hm:maskOk n m=true) (H:Hp):callF PP orc k impl_onlyValue.id [.int .i64 m] H=some (.int .i64 (oneOf m),H):=by
 obtain ⟨k,rfl⟩:=Zs k (by omega)
 rw [impl_onlyValue.call,← ov_one hm]
 exact onlyValue_l0 _ _ 4 k 1 (by omega) (by omega) (by omega)
theorem oneOf_single {n m:Int} (hm:maskOk n m=true):(oneOf m=0 ↔ single m=false)∧(single m=true→maskVals m=[oneOf m]∧1 ≤ oneOf m):=by
 unfold oneOf single
 by_cases c:(maskVals m).length=1
 ·obtain ⟨x,ex⟩:=List.length_eq_one_iff.1 c
  have hx:=maskVals_mem (m:=m) (x:=x) (by rw [ex]; simp)
  rw [if_pos c,ex]
  simp only [List.headD_cons,List.length_singleton,beq_self_eq_true]
  exact ⟨⟨fun h=>by omega,fun h=>by cases h⟩,fun _=>⟨trivial,hx.1⟩⟩
 ·rw [if_neg c]
  have:((maskVals m).length == 1)=false:=by simpa using c
  rw [this]
  exact ⟨⟨fun _=>rfl,fun _=>rfl⟩,fun h=>by cases h⟩
theorem iStart_l0 {k:Nat} (hk:2000003 ≤ k) {H0:Hp} {n:Int} {gs s t:Sl} {given:List Int} (hg0:Reads .i64 H0 gs given) (hg:gridOk given n=true) :
  ∀ (j i fuel:Nat) (H:Hp),i + j=given.length→j < fuel→H0 <+: H→Own 1 H0 H t ((openOf n (given.take i) ++ List.replicate j 0).map (.int .i64)) →
   ∃ H',impl_StartMasks.l0 (callF PP orc k) k fuel t gs (given.length:Int) i n gs s H=some (.sl 1 t,H')∧H0 <+: H'∧Own 1 H0 H' t ((openOf n given).map (.int .i64)):=by
 obtain ⟨hn,g2,g3⟩:=(gridOk_iff given n).1 hg
 have h16:=gridOk_len hg
 have hgl:=hg0.len
 have hol:∀ l:List Int,(openOf n l).length=l.length:=fun l=>by simp [openOf]
 intro j
 induction j with
 | zero=>
  intro i fuel H hi hf hp ho
  obtain ⟨fuel,rfl⟩:=Zs fuel (by omega)
  refine ⟨H,?_,hp,?_⟩
  ·simp (disch:=omega) only [impl_StartMasks.l0,impl_StartMasks.j2,df,Zf]
  ·rw [List.take_of_length_le (by omega)] at ho
   simpa using ho
 | succ j ih=>
  intro i fuel H hi hf hp ho
  obtain ⟨fuel,rfl⟩:=Zs fuel (by omega)
  have hi2:i < given.length:=by omega
  obtain ⟨v0,v1⟩:=g3 _ (mem_getD hi2)
  have htl:t.len=given.length:=by have:=(own_reads ho).len; simp [hol] at this; omega
  have hse:∀ v:Int,v=(if given.getD i 0 > 0 then pw (given.getD i 0) else topMask n)→(openOf n (given.take i) ++ List.replicate (j + 1) 0).set i v=openOf n (given.take (i + 1)) ++ List.replicate j 0:=fun v hv=>by
   rw [List.set_append_right _ _ (by rw [hol]; simp; omega),List.take_succ_eq_append_getElem hi2]
   unfold openOf
   rw [List.map_append,List.append_assoc,hv,List.getD_eq_getElem?_getD,List.getElem?_eq_getElem hi2]
   simp [show min i given.length=i by omega,List.replicate_succ]
  have hav:=allValues_ok (show 1 ≤ k by omega) hn H
  obtain ⟨H1,a1,a2,a3,a4⟩:=own_set1 ho hp i (by simp [hol]; omega) (topMask n)
  by_cases c:given.getD i 0 > 0
  ·obtain ⟨H2,b1,b2,b3,b4⟩:=own_set1 a3 a2 i (by simp [hol]; omega) (pw (given.getD i 0))
   have e2:((openOf n (given.take i) ++ List.replicate (j + 1) 0).set i (topMask n)).set i (pw (given.getD i 0))=openOf n (given.take (i + 1)) ++ List.replicate j 0:=by
    rw [List.set_set]; exact hse _ (by rw [if_pos c])
   rw [e2] at b3
   obtain ⟨H',d1,d2,d3⟩:=ih (i + 1) fuel H2 (by omega) (by omega) b2 b3
   push_cast at d1
   refine ⟨H',?_,d2,d3⟩
   simp (disch:=omega) only [impl_StartMasks.l0,impl_StartMasks.j1,dt,Za,Zt,Zn,Zo,AV.toI,if_true,rdn (pf_reads hp hg0),hav,a1,iN,m_shl v0,b1,wr (n:=(i:Int) + 1),d1]
  ·rw [hse _ (by rw [if_neg c])] at a3
   obtain ⟨H',d1,d2,d3⟩:=ih (i + 1) fuel H1 (by omega) (by omega) a2 a3
   push_cast at d1
   refine ⟨H',?_,d2,d3⟩
   simp (disch:=omega) only [impl_StartMasks.l0,impl_StartMasks.j1,dt,df,Za,Zt,Zf,Zn,Zo,AV.toI,if_true,rdn (pf_reads hp hg0),hav,a1,wr (n:=(i:Int) + 1),d1]
theorem implStartMasks_ok {k:Nat} (hk:2000010 ≤ k) {H:Hp} {n:Int} {gs s:Sl} {given:List Int} {rs:List R} (hz:PuzAt H n gs s given rs) :
  ∃ t H',callF PP orc k impl_StartMasks.id [.agg [.int .i64 n,.sl 1 gs,.sl 3 s]] H=some (.sl 1 t,H')∧H <+: H'∧NilOr H H' t (startV n given (rs.map R.val)):=by
 obtain ⟨k,rfl⟩:=Zs k (by omega)
 rw [impl_StartMasks.call]
 have h1:=implPuzzleValid_ok (show 2000003 ≤ k by omega) hz.n4 hz.rg hz.gl hz.rr hz.rl hz.rc
 rw [puzzle_map] at h1
 have hgl:=hz.rg.len
 unfold startV
 cases e1:puzzleV n given (rs.map R.val) with
 | false=>
  rw [e1] at h1
  rw [iN (by simp)]
  exact ⟨Sl.none,H,by simp only [impl_StartMasks.f,dt,df,bt,bf,nt,nf,Za,Zy,Zx,Zt,Zf,Zn,Zz,Zi,Zo,wr,AV.toB,AV.toI,AV.toS,if_true,h1],(List.prefix_refl _),.inl ⟨rfl,rfl⟩⟩
 | true=>
  rw [e1] at h1
  rw [ip rfl]
  have hg:=(puzzleV_grid e1).1
  have h16:=gridOk_len hg
  have hnew:=own_new 1 H ((List.replicate given.length (0:Int)).map (.int .i64)) given.length (by simp)
  obtain ⟨H',b1,b2,b3⟩:=iStart_l0 (show 2000003 ≤ k by omega) (s:=s) hz.rg hg given.length 0 k (H ++ [some (Blk.mk false ((List.replicate given.length (0:Int)).map (.int .i64)))]) (by omega) (by omega) (List.prefix_append _ _) (by
   have e:openOf n (given.take 0)=[]:=rfl
   rw [e,List.nil_append]; exact hnew)
  refine ⟨_,H',?_,b2,.inr b3⟩
  simp only [Int.natCast_zero] at b1
  simp only [impl_StartMasks.f,dt,df,bt,bf,nt,nf,Za,Zy,Zx,Zt,Zf,Zn,Zz,Zi,Zo,wr,AV.toB,AV.toI,AV.toS,if_true,h1,hgl,flat0s]
  rw [ip (by omega),b1]
def gridM (n:Int) (l:List Int):List Int:=if masksOk n l=true then l.map oneOf else []
theorem implGrid_l0 {k:Nat} (hk:2000000 ≤ k) {H0:Hp} {ms t:Sl} {l:List Int} {n:Int} (hm:Reads .i64 H0 ms l) (hv:masksOk n l=true) :
  ∀ (j i fuel:Nat) (H:Hp),i + j=l.length→j < fuel→H0 <+: H→Own 1 H0 H t (((l.take i).map oneOf ++ List.replicate j 0).map (.int .i64)) →
   ∃ H',impl_MasksGrid.l0 (callF PP orc k) k fuel t ms (l.length:Int) i H=some (.sl 1 t,H')∧H0 <+: H'∧Own 1 H0 H' t ((l.map oneOf).map (.int .i64)):=by
 have hml:=hm.len
 have hl:=masks_len hv
 intro j
 induction j with
 | zero=>
  intro i fuel H hi hf hp ho
  obtain ⟨fuel,rfl⟩:=Zs fuel (by omega)
  refine ⟨H,?_,hp,?_⟩
  ·simp (disch:=omega) only [impl_MasksGrid.l0,impl_MasksGrid.j1,dt,df,bt,bf,nt,nf,Za,Zy,Zx,Zt,Zf,Zn,Zz,Zi,Zo,wr,AV.toB,AV.toI,AV.toS,if_true]
  ·rw [List.take_of_length_le (by omega)] at ho
   simpa using ho
 | succ j ih=>
  intro i fuel H hi hf hp ho
  obtain ⟨fuel,rfl⟩:=Zs fuel (by omega)
  have hi2:i < l.length:=by omega
  have htl:t.len=l.length:=by have:=(own_reads ho).len; simp at this; omega
  have h1:=onlyValue_ok hk (masks_at hv hi2) H
  obtain ⟨H1,a1,a2,a3,a4⟩:=own_set1 ho hp i (by simp; omega) (oneOf (l.getD i 0))
  have e:((l.take i).map oneOf ++ List.replicate (j + 1) 0).set i (oneOf (l.getD i 0))=(l.take (i + 1)).map oneOf ++ List.replicate j 0:=by
   rw [List.set_append_right _ _ (by simp; omega),List.take_succ_eq_append_getElem hi2,List.map_append,List.append_assoc,List.getD_eq_getElem?_getD,List.getElem?_eq_getElem hi2]
   simp [show min i l.length=i by omega,List.replicate_succ]
  rw [e] at a3
  obtain ⟨H',b1,b2,b3⟩:=ih (i + 1) fuel H1 (by omega) (by omega) a2 a3
  push_cast at b1
  refine ⟨H',?_,b2,b3⟩
  simp (disch:=omega) only [impl_MasksGrid.l0,dt,df,bt,bf,nt,nf,Za,Zy,Zx,Zt,Zf,Zn,Zz,Zi,Zo,wr,AV.toB,AV.toI,AV.toS,if_true,rdn (pf_reads hp hm),h1,a1,b1]
theorem implMasksGrid_ok {k:Nat} (hk:2000010 ≤ k) {H:Hp} {ms:Sl} {l:List Int} {n:Int} (hb:-1 ≤ n∧n ≤ 5) (hm:Reads .i64 H ms l) (hl:l.length ≤ 1000) (hr:∀ m ∈ l,-2 ≤ m∧m ≤ 63) :
  ∃ t H',callF PP orc k impl_MasksGrid.id [.sl 1 ms,.int .i64 n] H=some (.sl 1 t,H')∧H <+: H'∧NilOr H H' t (gridM n l):=by
 obtain ⟨k,rfl⟩:=Zs k (by omega)
 rw [impl_MasksGrid.call]
 have h1:=implMasksValid_ok (show 2000000 ≤ k by omega) hb hm hl hr
 have hml:=hm.len
 unfold gridM
 cases e1:masksOk n l with
 | false=>
  rw [e1] at h1
  rw [iN (by simp)]
  exact ⟨Sl.none,H,by simp only [impl_MasksGrid.f,dt,df,bt,bf,nt,nf,Za,Zy,Zx,Zt,Zf,Zn,Zz,Zi,Zo,wr,AV.toB,AV.toI,AV.toS,if_true,h1],(List.prefix_refl _),.inl ⟨rfl,rfl⟩⟩
 | true=>
  rw [e1] at h1
  rw [ip rfl]
  have hnew:=own_new 1 H ((List.replicate l.length (0:Int)).map (.int .i64)) l.length (by simp)
  obtain ⟨H',b1,b2,b3⟩:=implGrid_l0 (show 2000000 ≤ k by omega) hm e1 l.length 0 k (H ++ [some (Blk.mk false ((List.replicate l.length (0:Int)).map (.int .i64)))]) (by omega) (by omega) (List.prefix_append _ _) (by rw [List.take_zero,List.map_nil,List.nil_append]; exact hnew)
  refine ⟨_,H',?_,b2,.inr b3⟩
  simp only [Int.natCast_zero] at b1
  simp only [impl_MasksGrid.f,dt,df,bt,bf,nt,nf,Za,Zy,Zx,Zt,Zf,Zn,Zz,Zi,Zo,wr,AV.toB,AV.toI,AV.toS,if_true,h1,hml,flat0s]
  rw [ip (by omega),b1]
theorem oneOf_le {n m:Int} (hn:2 ≤ n∧n ≤ 4) (hm:maskOk n m=true):0 ≤ oneOf m∧oneOf m ≤ n:=by
 obtain ⟨o1,o2⟩:=oneOf_single hm
 cases e:single m with
 | true=>
  obtain ⟨e1,e2⟩:=o2 e
  have:=mv_top hn hm (w:=oneOf m) (by rw [e1]; simp)
  omega
 | false=>rw [o1.2 e]; omega
theorem gridM_ok {n:Int} {l:List Int} (hl:masksOk n l=true):gridOk (gridM n l) n=true∧(gridM n l).length=l.length:=by
 obtain ⟨hn,h2,h3⟩:=masksOk_iff.1 hl
 unfold gridM
 rw [if_pos hl]
 refine ⟨(gridOk_iff _ _).2 ⟨hn,by simpa using h3,fun v hv=>?_⟩,by simp⟩
 obtain ⟨m,hm,rfl⟩:=List.mem_map.1 hv
 exact oneOf_le hn (h2 m hm)
theorem gridM_at {n:Int} {l:List Int} (hl:masksOk n l=true) {i:Nat} (hi:i < l.length):(gridM n l).getD i 0=oneOf (l.getD i 0):=by
 unfold gridM
 rw [if_pos hl,List.getD_eq_getElem?_getD,List.getElem?_map,List.getElem?_eq_getElem hi,List.getD_eq_getElem?_getD (l:=l),List.getElem?_eq_getElem hi]; rfl
theorem AllIn_pt:∀ (ms ws:List Int),AllIn ms ws ↔ ws.length=ms.length∧∀ i,i < ms.length→ws.getD i 0 ∈ maskVals (ms.getD i 0)
 | [],[]=>by simp [AllIn]
 | [],w :: ws=>by simp [AllIn]
 | m :: ms,[]=>by simp [AllIn]
 | m :: ms,w :: ws=>by
  show (w ∈ maskVals m∧AllIn ms ws) ↔ _
  rw [AllIn_pt ms ws]
  constructor
  ·rintro ⟨h1,h2,h3⟩
   refine ⟨by simpa using h2,fun i hi=>?_⟩
   cases i with
   | zero=>simpa using h1
   | succ i=>simpa using h3 i (by simpa using hi)
  ·rintro ⟨h1,h2⟩
   refine ⟨by simpa using h2 0 (by simp),by simpa using h1,fun i hi=>?_⟩
   simpa using h2 (i + 1) (by simpa using hi)
theorem own_len (masks cells:List Int):(ownOf masks cells).length=cells.length:=by simp [ownOf]
theorem own_at {masks cells:List Int} {i:Nat} (hi:i < cells.length):(ownOf masks cells).getD i 0=masks.getD (cells.getD i 0).toNat 0:=by
 unfold ownOf
 rw [List.getD_eq_getElem?_getD,List.getElem?_map,List.getElem?_eq_getElem hi,List.getD_eq_getElem?_getD (l:=cells),List.getElem?_eq_getElem hi]; rfl
theorem map_at {cells:List Int} {f:Int→Int} {i:Nat} (hi:i < cells.length):(cells.map f).getD i 0=f (cells.getD i 0):=by
 rw [List.getD_eq_getElem?_getD,List.getElem?_map,List.getElem?_eq_getElem hi,List.getD_eq_getElem?_getD (l:=cells),List.getElem?_eq_getElem hi]; rfl
theorem rule_full {n:Int} {g:List Int} (hg:gridOk g n=true) (hf:full g) {r:V} (hr:ruleOkV n r=true) (h:canHoldV n g r=true):holdsV r.1 r.2.2 (r.2.1.map (gv g))=true:=by
 obtain ⟨c1,c2,c3,c4⟩:=ruleOk_cells hr
 have hl:=((gridOk_iff g n).1 hg).2.1
 rw [canHold_iff c3 c2] at h
 obtain ⟨ws,a,b⟩:=h
 rw [AllIn_pt,own_len] at a
 have:ws=r.2.1.map (gv g):=by
  refine ext_getD (by rw [a.1,List.length_map]) fun i hi=>?_
  have hi2:i < r.2.1.length:=by omega
  have h1:=a.2 i hi2
  have hc:=c1 _ (mem_getD hi2)
  rw [own_at hi2,open_vals hg (show (r.2.1.getD i 0).toNat < g.length by omega)] at h1
  rw [map_at hi2]
  exact h1.2 (hf _ (by omega))
 rw [← this]; exact b
theorem tdivN (a b:Nat):((a:Int)).tdiv (b:Int)=((a / b:Nat):Int):=rfl
theorem tmodN (a b:Nat):((a:Int)).tmod (b:Int)=((a % b:Nat):Int):=rfl
theorem row_ok {N i kk:Nat} (hN:N=2 ∨ N=3 ∨ N=4) (hi:i ≤ 100) (hk:kk ≤ 100):IntKind.i64.wrap (IntKind.i64.wrap (IntKind.i64.wrap ((i:Int).tdiv (N:Int)) * (N:Int)) + (kk:Int))=((i / N * N + kk:Nat):Int)∧IntKind.i64.wrap (IntKind.i64.wrap ((kk:Int) * (N:Int)) + (i:Int).tmod (N:Int))=((kk * N + i % N:Nat):Int):=by
 rw [tdivN,tmodN]
 have d:=Nat.div_le_self i N
 have m:i % N < N:=Nat.mod_lt _ (by omega)
 rcases hN with rfl | rfl | rfl
 ·rw [wr (n:=((i / 2:Nat):Int)) (by omega) (by omega),wr (n:=((i / 2:Nat):Int) * ((2:Nat):Int)) (by omega) (by omega),wr (n:=((i / 2:Nat):Int) * ((2:Nat):Int) + (kk:Int)) (by omega) (by omega),wr (n:=(kk:Int) * ((2:Nat):Int)) (by omega) (by omega),wr (n:=(kk:Int) * ((2:Nat):Int) + ((i % 2:Nat):Int)) (by omega) (by omega)]
  constructor <;> (push_cast; omega)
 ·rw [wr (n:=((i / 3:Nat):Int)) (by omega) (by omega),wr (n:=((i / 3:Nat):Int) * ((3:Nat):Int)) (by omega) (by omega),wr (n:=((i / 3:Nat):Int) * ((3:Nat):Int) + (kk:Int)) (by omega) (by omega),wr (n:=(kk:Int) * ((3:Nat):Int)) (by omega) (by omega),wr (n:=(kk:Int) * ((3:Nat):Int) + ((i % 3:Nat):Int)) (by omega) (by omega)]
  constructor <;> (push_cast; omega)
 ·rw [wr (n:=((i / 4:Nat):Int)) (by omega) (by omega),wr (n:=((i / 4:Nat):Int) * ((4:Nat):Int)) (by omega) (by omega),wr (n:=((i / 4:Nat):Int) * ((4:Nat):Int) + (kk:Int)) (by omega) (by omega),wr (n:=(kk:Int) * ((4:Nat):Int)) (by omega) (by omega),wr (n:=(kk:Int) * ((4:Nat):Int) + ((i % 4:Nat):Int)) (by omega) (by omega)]
  constructor <;> (push_cast; omega)
theorem peer_iff {N x i:Nat} (hN:N=2 ∨ N=3 ∨ N=4) (hx:x < N * N) (hi:i < N * N):(∃ u,u < N∧(x=i / N * N + u ∨ x=u * N + i % N)∧x ≠ i) ↔ peer N x i:=by
 unfold peer
 constructor
 ·rintro ⟨u,hu,h,hne⟩
  refine ⟨hne,?_⟩
  rcases hN with rfl | rfl | rfl <;> omega
 ·rintro ⟨hne,h⟩
  rcases h with h | h
  ·refine ⟨x % N,Nat.mod_lt _ (by omega),.inl ?_,hne⟩
   rcases hN with rfl | rfl | rfl <;> omega
  ·refine ⟨x / N,?_,.inr ?_,hne⟩
   ·rcases hN with rfl | rfl | rfl <;> omega
   ·rcases hN with rfl | rfl | rfl <;> omega
theorem iSing_l4 (rec:Rec) (k:Nat) (L0:Int→Sl→Sl→Int→Int→Hp→An) (L2:Int→Sl→Int→Int→Sl→Int→Int→Int→Int→Hp→An) {H0 Hb:Hp} {n x18 x19 x27 x28 m:Int} {i:Nat} {t xs x17:Sl} {l cs:List Int} (hm:M m) (hcl:cs.length ≤ 10) (hin:∀ c ∈ cs,0 ≤ c∧c < (l.length:Int)) (hl:l.length ≤ 100) (htb:t.blk < Hb.length) :
  ∀ (j q fuel:Nat) (H:Hp) (a:List Int) (P:Nat→Nat→Prop),q + j=cs.length→j < fuel→H0 <+: H→Own 1 Hb H xs (cs.map (.int .i64))→Own 1 H0 H t (a.map (.int .i64))→Sub l a P →
   ∃ H' a',impl_NarrowSingles.l4 rec k L0 L2 fuel n t i m x17 x18 x19 x27 x28 xs (cs.length:Int) q H=L2 n t i m x17 x18 x19 x27 (IntKind.i64.wrap (x28 + 1)) H'∧H0 <+: H'∧Own 1 H0 H' t (a'.map (.int .i64))∧Adv t.blk H H'∧Sub l a' (fun x v=>P x v ∨ ∃ u,q ≤ u∧u < cs.length∧(x:Int)=cs.getD u 0∧x ≠ i∧has m v=true):=by
 intro j
 induction j with
 | zero=>
  intro q fuel H a P hq hf hp hx ho hs
  obtain ⟨fuel,rfl⟩:=Zs fuel (by omega)
  refine ⟨H,a,?_,hp,ho,Adv.refl _ _,hs.congr fun x v hx=>⟨.inl,by rintro (h | ⟨u,h1,h2,_⟩); exact h; omega⟩⟩
  simp (disch:=omega) only [impl_NarrowSingles.l4,impl_NarrowSingles.j6,df,Zf]
 | succ j ih=>
  intro q fuel H a P hq hf hp hx ho hs
  obtain ⟨fuel,rfl⟩:=Zs fuel (by omega)
  have hq2:q < cs.length:=by omega
  obtain ⟨c0,c1⟩:=hin _ (mem_getD hq2)
  have hal:=hs.len
  have htl:=(own_reads ho).len
  have hxl:=(own_reads hx).len
  have hrx:=rdn (own_reads hx) hq2
  obtain ⟨c,hc⟩:=Int.eq_ofNat_of_zero_le c0
  rw [hc] at hrx c1
  by_cases e:c=i
  ·obtain ⟨H',a',b1,b2,b3,b4,b5⟩:=ih (q + 1) fuel H a P (by omega) (by omega) hp hx ho hs
   push_cast at b1
   refine ⟨H',a',?_,b2,b3,b4,b5.congr fun x v hxl=>?_⟩
   ·simp (disch:=omega) only [impl_NarrowSingles.l4,impl_NarrowSingles.j5,dt,nf,Za,Zt,Zf,Zn,Zo,hrx,wr (n:=(q:Int) + 1),b1]
   ·constructor
    ·rintro (h | ⟨u,h1,h2⟩)
     ·exact .inl h
     ·exact .inr ⟨u,by omega,h2⟩
    ·rintro (h | ⟨u,h1,h2,h3,h4,h5⟩)
     ·exact .inl h
     ·refine .inr ⟨u,?_,h2,h3,h4,h5⟩
      by_cases eu:u=q
      ·subst eu; rw [hc] at h3; omega
      ·omega
  ·obtain ⟨H1,a1,a2,a3,a4⟩:=own_set1 ho hp c (by omega) (mSub (a.getD c 0) m)
   obtain ⟨H',a',b1,b2,b3,b4,b5⟩:=ih (q + 1) fuel H1 _ _ (by omega) (by omega) a2 (a4.own htb hx) a3 (hs.step c (by omega) hm)
   push_cast at b1
   refine ⟨H',a',?_,b2,b3,a4.trans b4,b5.congr fun x v hxl=>?_⟩
   ·simp (disch:=omega) only [impl_NarrowSingles.l4,impl_NarrowSingles.j5,dt,nt,Za,Zt,Zn,Zo,hrx,rdn (own_reads ho),m_sub (hs.ms.at c) hm,a1,wr (n:=(q:Int) + 1),b1]
   ·constructor
    ·rintro ((h | ⟨h1,h2⟩) | ⟨u,h1,h2⟩)
     ·exact .inl h
     ·exact .inr ⟨q,Nat.le_refl _,hq2,by rw [hc,h1],by omega,h2⟩
     ·exact .inr ⟨u,by omega,h2⟩
    ·rintro (h | ⟨u,h1,h2,h3,h4,h5⟩)
     ·exact .inl (.inl h)
     ·by_cases eu:u=q
      ·subst eu; rw [hc] at h3; exact .inl (.inr ⟨by omega,h5⟩)
      ·exact .inr ⟨u,by omega,h2,h3,h4,h5⟩
theorem iSing_l2 (rec:Rec) (k:Nat) (hk:100 ≤ k) (L0:Int→Sl→Sl→Int→Int→Hp→An) {H0:Hp} {N i:Nat} {x18 m:Int} {t x17:Sl} {l:List Int} (hN:N=2 ∨ N=3 ∨ N=4) (hl:l.length=N * N) (hi:i < l.length) (hm:M m) :
  ∀ (j kk fuel:Nat) (H:Hp) (a:List Int) (P:Nat→Nat→Prop),kk + j=N→j < fuel→H0 <+: H→Own 1 H0 H t (a.map (.int .i64))→Sub l a P →
   ∃ H' a',impl_NarrowSingles.l2 rec k L0 fuel (N:Int) t i m x17 x18 i (N:Int) kk H=L0 (N:Int) t x17 x18 ((i:Int) + 1) H'∧H0 <+: H'∧Own 1 H0 H' t (a'.map (.int .i64))∧Sub l a' (fun x v=>P x v ∨ ∃ u,kk ≤ u∧u < N∧(x=i / N * N + u ∨ x=u * N + i % N)∧x ≠ i∧has m v=true):=by
 have hl16:l.length ≤ 16:=by rcases hN with rfl | rfl | rfl <;> omega
 intro j
 induction j with
 | zero=>
  intro kk fuel H a P hq hf hp ho hs
  obtain ⟨fuel,rfl⟩:=Zs fuel (by omega)
  refine ⟨H,a,?_,hp,ho,hs.congr fun x v hx=>⟨.inl,by rintro (h | ⟨u,h1,h2,_⟩); exact h; omega⟩⟩
  simp (disch:=omega) only [impl_NarrowSingles.l2,impl_NarrowSingles.j1,df,Zf,wr (n:=(i:Int) + 1)]
 | succ j ih=>
  intro kk fuel H a P hq hf hp ho hs
  obtain ⟨fuel,rfl⟩:=Zs fuel (by omega)
  obtain ⟨r1,r2⟩:=row_ok (i:=i) (kk:=kk) hN (by omega) (by omega)
  have q1:H <+: H ++ [some (Blk.mk false (([((i / N * N + kk:Nat):Int),((kk * N + i % N:Nat):Int)]:List Int).map (.int .i64)))]:=List.prefix_append _ _
  have hnew:=own_new 1 H (([((i / N * N + kk:Nat):Int),((kk * N + i % N:Nat):Int)]:List Int).map (.int .i64)) 2 rfl
  obtain ⟨H1,a1,b1,b2,b3,b4,b5⟩:=iSing_l4 rec k L0 (impl_NarrowSingles.l2 rec k L0 fuel) (n:=(N:Int)) (x17:=x17) (x18:=x18) (x19:=(i:Int)) (x27:=(N:Int)) (x28:=(kk:Int)) (i:=i) hm (cs:=[((i / N * N + kk:Nat):Int),((kk * N + i % N:Nat):Int)]) (l:=l) (by simp) (fun c hc=>by
   simp only [List.mem_cons,List.not_mem_nil,or_false] at hc
   rcases hN with rfl | rfl | rfl <;> omega) (by omega) (own_lt' ho) 2 0 k (H ++ [some (Blk.mk false (([((i / N * N + kk:Nat):Int),((kk * N + i % N:Nat):Int)]:List Int).map (.int .i64)))]) a P (by simp) (by omega) (hp.trans q1) hnew (own_pf ho q1) hs
  obtain ⟨H',a',d1,d2,d3,d4⟩:=ih (kk + 1) fuel H1 a1 _ (by omega) (by omega) b2 b3 b5
  push_cast at d1
  refine ⟨H',a',?_,d2,d3,d4.congr fun x v hxl=>?_⟩
  ·simp only [List.map_cons,List.map_nil,Zl,Zm,Int.natCast_zero] at b1
   simp (disch:=omega) only [impl_NarrowSingles.l2,dt,Zt,iN (show ¬ ((N:Int)=0) by omega),r1,r2]
   refine Eq.trans b1 ?_
   rw [wr (n:=(kk:Int) + 1) (by omega) (by omega)]
   exact d1
  ·constructor
   ·rintro ((h | ⟨u,h1,h2,h3,h4⟩) | ⟨u,h1,h2⟩)
    ·exact .inl h
    ·have:u=0 ∨ u=1:=by simp at h2; omega
     rcases this with rfl | rfl
     ·exact .inr ⟨kk,Nat.le_refl _,by omega,.inl (by simpa using Int.ofNat_inj.1 h3),h4⟩
     ·exact .inr ⟨kk,Nat.le_refl _,by omega,.inr (by simpa using Int.ofNat_inj.1 h3),h4⟩
    ·exact .inr ⟨u,by omega,h2⟩
   ·rintro (h | ⟨u,h1,h2,h3,h4⟩)
    ·exact .inl (.inl h)
    ·by_cases eu:u=kk
     ·subst eu
      rcases h3 with h3 | h3
      ·exact .inl (.inr ⟨0,by omega,by simp,by rw [h3]; rfl,h4⟩)
      ·exact .inl (.inr ⟨1,by omega,by simp,by rw [h3]; rfl,h4⟩)
     ·exact .inr ⟨u,by omega,h2,h3,h4⟩
theorem iSing_l0 {k:Nat} (hk:2000000 ≤ k) {H0:Hp} {ms t:Sl} {l:List Int} {N:Nat} {n:Int} (hN:N=2 ∨ N=3 ∨ N=4) (hnN:n=(N:Int)) (hm:Reads .i64 H0 ms l) (hv:masksOk n l=true) (hll:l.length=N * N) :
  ∀ (j i fuel:Nat) (H:Hp) (a:List Int) (P:Nat→Nat→Prop),i + j=l.length→j < fuel→H0 <+: H→Own 1 H0 H t (a.map (.int .i64))→Sub l a P →
   ∃ H' a',impl_NarrowSingles.l0 (callF PP orc k) k fuel (N:Int) t ms (l.length:Int) i H=some (.sl 1 t,H')∧H0 <+: H'∧Own 1 H0 H' t (a'.map (.int .i64))∧Sub l a' (fun x v=>P x v ∨ ∃ q,i ≤ q∧q < l.length∧peer N x q∧single (l.getD q 0)=true∧has (l.getD q 0) v=true):=by
 have hml:=hm.len
 have hM:=masks_M hv
 have hl16:l.length ≤ 16:=by rcases hN with rfl | rfl | rfl <;> omega
 intro j
 induction j with
 | zero=>
  intro i fuel H a P hi hf hp ho hs
  obtain ⟨fuel,rfl⟩:=Zs fuel (by omega)
  refine ⟨H,a,?_,hp,ho,hs.congr fun x v hx=>⟨.inl,by rintro (h | ⟨q,h1,h2,_⟩); exact h; omega⟩⟩
  simp (disch:=omega) only [impl_NarrowSingles.l0,impl_NarrowSingles.j3,df,Zf]
 | succ j ih=>
  intro i fuel H a P hi hf hp ho hs
  obtain ⟨fuel,rfl⟩:=Zs fuel (by omega)
  have hi2:i < l.length:=by omega
  have hrd:=pf_reads hp hm
  have h1:=onlyValue_ok hk (masks_at hv hi2) H
  obtain ⟨o1,o2⟩:=oneOf_single (masks_at hv hi2)
  cases es:single (l.getD i 0) with
  | true=>
   have h0:=(o2 es).2
   obtain ⟨H2,a',b1,b2,b3,b4⟩:=iSing_l2 (callF PP orc k) k (by omega) (impl_NarrowSingles.l0 (callF PP orc k) k fuel) (x17:=ms) (x18:=(l.length:Int)) hN hll hi2 (hM.at i) N 0 k H a P (by omega) (by omega) hp ho hs
   obtain ⟨H',a'',d1,d2,d3,d4⟩:=ih (i + 1) fuel H2 a' _ (by omega) (by omega) b2 b3 b4
   push_cast at d1
   refine ⟨H',a'',?_,d2,d3,d4.congr fun x v hx=>?_⟩
   ·simp only [Int.natCast_zero] at b1
    simp (disch:=omega) only [impl_NarrowSingles.l0,dt,bf,Za,Zt,Zf,Zn,Zo,AV.toI,if_true,rdn hrd,h1,b1,d1]
   ·constructor
    ·rintro ((h | ⟨u,_,h2,h3,h4,h5⟩) | ⟨q,h1,h2⟩)
     ·exact .inl h
     ·exact .inr ⟨i,Nat.le_refl _,hi2,(peer_iff hN (by omega) (by omega)).1 ⟨u,h2,h3,h4⟩,es,h5⟩
     ·exact .inr ⟨q,by omega,h2⟩
    ·rintro (h | ⟨q,h1,h2,h3,h4,h5⟩)
     ·exact .inl (.inl h)
     ·by_cases e:q=i
      ·subst e
       obtain ⟨u,u1,u2,u3⟩:=(peer_iff hN (by omega) (by omega)).2 h3
       exact .inl (.inr ⟨u,by omega,u1,u2,u3,h5⟩)
      ·exact .inr ⟨q,by omega,h2,h3,h4,h5⟩
  | false=>
   have h0:=o1.2 es
   obtain ⟨H',a'',d1,d2,d3,d4⟩:=ih (i + 1) fuel H a P (by omega) (by omega) hp ho hs
   push_cast at d1
   refine ⟨H',a'',?_,d2,d3,d4.congr fun x v hx=>?_⟩
   ·simp (disch:=omega) only [impl_NarrowSingles.l0,impl_NarrowSingles.j1,dt,bt,Za,Zt,Zf,Zn,Zo,AV.toI,if_true,rdn hrd,h1,wr (n:=(i:Int) + 1),d1]
   ·constructor
    ·rintro (h | ⟨q,h1,h2⟩)
     ·exact .inl h
     ·exact .inr ⟨q,by omega,h2⟩
    ·rintro (h | ⟨q,h1,h2,h3,h4,h5⟩)
     ·exact .inl h
     ·refine .inr ⟨q,?_,h2,h3,h4,h5⟩
      by_cases e:q=i
      ·subst e; rw [es] at h4; cases h4
      ·omega
theorem implNarrowSingles_ok {k:Nat} (hk:2000010 ≤ k) {H:Hp} {ms:Sl} {l:List Int} {n:Int} (hb:-1 ≤ n∧n ≤ 5) (hm:Reads .i64 H ms l) (hnn:ms.nil=false) (hl:l.length ≤ 1000) (hr:∀ m ∈ l,-2 ≤ m∧m ≤ 63) :
  ∃ t H',callF PP orc k impl_NarrowSingles.id [.sl 1 ms,.int .i64 n] H=some (.sl 1 t,H')∧H <+: H'∧NilOr H H' t (singlesV n l):=by
 obtain ⟨k,rfl⟩:=Zs k (by omega)
 rw [impl_NarrowSingles.call]
 have h1:=implMasksValid_ok (show 2000000 ≤ k by omega) hb hm hl hr
 have hml:=hm.len
 unfold singlesV
 cases hv:masksOk n l with
 | false=>
  rw [hv] at h1
  rw [iN (by simp)]
  exact ⟨Sl.none,H,by simp only [impl_NarrowSingles.f,dt,df,bt,bf,nt,nf,Za,Zy,Zx,Zt,Zf,Zn,Zz,Zi,Zo,wr,AV.toB,AV.toI,AV.toS,if_true,h1],(List.prefix_refl _),.inl ⟨rfl,rfl⟩⟩
 | true=>
  rw [hv] at h1
  rw [ip rfl]
  obtain ⟨l4,l16,lN,hN,n2,n4⟩:=masks_len hv
  have hM:=masks_M hv
  have h2:=Clone_own (show 1 ≤ k by omega) hm hnn hl
  have hnew:=own_new 1 H (l.map (.int .i64)) l.length (by simp)
  obtain ⟨H',a',b1,b2,b3,b4⟩:=iSing_l0 (show 2000000 ≤ k by omega) (N:=n.toNat) (by omega) hN hm hv lN l.length 0 k (H ++ [some (Blk.mk false (l.map (.int .i64)))]) l _ (by omega) (by omega) (List.prefix_append _ _) hnew (Sub.refl hM)
  rw [← hN] at b1
  have e:a'=subAll l (PS n.toNat l):=(b4.congr fun x v hx=>(show _ ↔ PS n.toNat l x v from ⟨by rintro (h | ⟨q,_,h⟩); exact h.elim; exact ⟨q,h⟩,fun ⟨q,h⟩=>.inr ⟨q,by omega,h⟩⟩)).eq hM
  subst e
  refine ⟨_,H',?_,b2,.inr b3⟩
  simp only [Int.natCast_zero] at b1
  simp only [impl_NarrowSingles.f,dt,df,bt,bf,nt,nf,Za,Zy,Zx,Zt,Zf,Zn,Zz,Zi,Zo,wr,AV.toB,AV.toI,AV.toS,if_true,h1,h2,hml,b1]
theorem wdivm {a u:Nat} (N:Nat) (hN:2 ≤ N∧N ≤ 4) (ha:a < N * N) (hu:u < N):IntKind.i64.wrap (IntKind.i64.wrap (IntKind.i64.wrap ((a:Int).tdiv (N:Int)) * (N:Int)) + (u:Int))=((a / N * N + u:Nat):Int)∧IntKind.i64.wrap (IntKind.i64.wrap ((u:Int) * (N:Int)) + (a:Int).tmod (N:Int))=((u * N + a % N:Nat):Int)∧a / N * N + u < N * N∧u * N + a % N < N * N:=by
 have e1:((a:Int)).tdiv (N:Int)=((a / N:Nat):Int):=rfl
 have e2:((a:Int)).tmod (N:Int)=((a % N:Nat):Int):=rfl
 rw [e1,e2]
 have:N=2 ∨ N=3 ∨ N=4:=by omega
 rcases this with rfl | rfl | rfl
 all_goals
  refine ⟨?_,?_,by omega,by omega⟩
  ·rw [wr (n:=((a / _:Nat):Int)) (by omega) (by omega),wr (n:=((a / _:Nat):Int) * _) (by omega) (by omega),wr (by omega) (by omega)]; omega
  ·rw [wr (n:=(u:Int) * _) (by omega) (by omega),wr (by omega) (by omega)]; omega
theorem cellFits_l5 {k:Nat} (hk:2000041 ≤ k) {H0:Hp} {n:Int} {gs s xs:Sl} {given g:List Int} {rs:List R} (hz:PuzAt H0 n gs s given rs) (hro:∀ r ∈ rs,R.ok n r=true) (hx:Reads .i64 H0 xs g) (hg:gridOk g n=true) {at':Nat} :
  ∀ (j i fuel:Nat) (H:Hp),i + j=rs.length→j < fuel→H0 <+: H→∃ H',impl_cellFits.l5 (callF PP orc k) k fuel xs at' n s rs.length i H=some (.bool (((rs.drop i).map R.val).all fun r=>!r.2.1.contains (at':Int) || canHoldV n g r),H')∧H0 <+: H':=by
 have hlen:=hz.rr.len
 have hrl:=hz.rl
 intro j
 induction j with
 | zero=>
  intro i fuel H hi hf hp
  obtain ⟨fuel,rfl⟩:=Zs fuel (by omega)
  refine ⟨H,?_,hp⟩
  rw [List.drop_eq_nil_of_le (by omega),List.map_nil,List.all_nil]
  simp (disch:=omega) only [impl_cellFits.l5,dt,df,bt,bf,nt,nf,Za,Zy,Zx,Zt,Zf,Zn,Zz,Zi,Zo,wr,AV.toB,AV.toI,AV.toS,if_true]
 | succ j ih=>
  intro i fuel H hi hf hp
  obtain ⟨fuel,rfl⟩:=Zs fuel (by omega)
  have hi2:i < rs.length:=by omega
  obtain ⟨l0,l1,l2⟩:=rules_at1 (pf_readsR hp hz.rr) i hi2
  have hmem:=List.getElem_mem hi2
  have hcs:=pf_reads hp (hz.rr.cs i hi2)
  have hct:=Contains_ok (show 2000001 ≤ k by omega) (at':Int) hcs (by have:=hz.rc _ hmem; omega)
  rw [List.drop_eq_getElem_cons hi2,List.map_cons,List.all_cons]
  have e2:rs[i].val.2.1=rs[i].cells:=rfl
  rw [e2]
  cases c1:rs[i].cells.contains (at':Int) with
  | false=>
   rw [c1] at hct
   obtain ⟨H',b1,b2⟩:=ih (i + 1) fuel H (by omega) (by omega) hp
   push_cast at b1
   refine ⟨H',?_,b2⟩
   simp (disch:=omega) only [impl_cellFits.l5,impl_cellFits.j7,impl_cellFits.j8,dt,df,bt,bf,nt,nf,Za,Zy,Zx,Zt,Zf,Zn,Zz,Zi,Zo,wr,AV.toB,AV.toI,AV.toS,if_true,l0,l1,l2,hct,b1,Bool.true_or,Bool.true_and]
  | true=>
   rw [c1] at hct
   obtain ⟨H1,a1,a2⟩:=canHold_ok hk hcs (pf_reads hp hx) (hro _ hmem) hg
   have e:canHoldV n g (rs[i].kind,rs[i].cells,rs[i].value)=canHoldV n g rs[i].val:=rfl
   rw [e] at a1
   cases c:canHoldV n g rs[i].val with
   | true=>
    rw [c] at a1
    obtain ⟨H',b1,b2⟩:=ih (i + 1) fuel H1 (by omega) (by omega) (hp.trans a2)
    push_cast at b1
    refine ⟨H',?_,b2⟩
    simp (disch:=omega) only [impl_cellFits.l5,impl_cellFits.j7,impl_cellFits.j8,dt,df,bt,bf,nt,nf,Za,Zy,Zx,Zt,Zf,Zn,Zz,Zi,Zo,wr,AV.toB,AV.toI,AV.toS,if_true,l0,l1,l2,hct,a1,b1,Bool.or_true,Bool.true_and]
   | false=>
    rw [c] at a1
    refine ⟨H1,?_,hp.trans a2⟩
    simp (disch:=omega) only [impl_cellFits.l5,impl_cellFits.j7,impl_cellFits.j8,dt,df,bt,bf,nt,nf,Za,Zy,Zx,Zt,Zf,Zn,Zz,Zi,Zo,wr,AV.toB,AV.toI,AV.toS,if_true,l0,l1,l2,hct,a1,Bool.or_false,Bool.false_and]
theorem cellFits_l1 (rec:Rec) (k:Nat) (L0:Sl→Int→Int→Int→Int→Int→Sl→Sl→Hp→An) {n y0 x15:Int} {gs s xs cs:Sl} {H:Hp} {g cells:List Int} {at' q:Nat} (hc:Reads .i64 H cs cells) (hx:Reads .i64 H xs g) (ha:at' < g.length) (hq:q < 1000) (hcl:cells.length ≤ 10) (hin:∀ c ∈ cells,0 ≤ c∧c.toNat < g.length∧c < (g.length:Int)) :
  ∀ (j i fuel:Nat),i + j=cells.length→j < fuel→impl_cellFits.l1 rec k L0 fuel xs at' n x15 q cs cells.length i y0 gs s H =
   bif (cells.drop i).any (fun c=>decide (c ≠ (at':Int)) && decide (g.getD c.toNat 0=g.getD at' 0)) then some (.bool false,H) else L0 xs at' n x15 ((q:Int) + 1) y0 gs s H:=by
 have hcs:=hc.len
 have hxl:=hx.len
 have eqd:∀ a b:Int,(a == b)=decide (a=b):=fun a b=>by rw [Bool.eq_iff_iff]; simp
 intro j
 induction j with
 | zero=>
  intro i fuel hi hf
  obtain ⟨fuel,rfl⟩:=Zs fuel (by omega)
  rw [List.drop_eq_nil_of_le (by omega)]
  simp (disch:=omega) only [impl_cellFits.l1,impl_cellFits.j4,df,Zf,wr,List.any_nil]
 | succ j ih=>
  intro i fuel hi hf
  obtain ⟨fuel,rfl⟩:=Zs fuel (by omega)
  have hi2:i < cells.length:=by omega
  obtain ⟨c0,c1,c2⟩:=hin _ (mem_getD hi2)
  have hd:cells.drop i=cells.getD i 0 :: cells.drop (i + 1):=by
   rw [List.drop_eq_getElem_cons hi2,List.getD_eq_getElem?_getD,List.getElem?_eq_getElem hi2]; rfl
  have h5:=ih (i + 1) fuel (by omega) (by omega)
  push_cast at h5
  rw [hd,List.any_cons]
  by_cases cA:cells.getD i 0=(at':Int)
  ·rw [df (show ¬ cells.getD i 0 ≠ (at':Int) from fun h=>h cA),Bool.false_and,Bool.false_or]
   simp (disch:=omega) only [impl_cellFits.l1,impl_cellFits.j3,impl_cellFits.j6,dt,nf,Za,Zt,Zf,Zn,Zo,wr,rdn hc,h5]
  ·rw [dt cA,Bool.true_and]
   by_cases eA:g.getD (cells.getD i 0).toNat 0=g.getD at' 0
   ·rw [dt eA]
    simp (disch:=omega) only [impl_cellFits.l1,impl_cellFits.j3,impl_cellFits.j6,dt,nt,bt,Za,Zt,Zf,Zn,Zo,wr,rdn hc,rdn hx,Bool.true_or]
   ·rw [df eA]
    simp (disch:=omega) only [impl_cellFits.l1,impl_cellFits.j3,impl_cellFits.j6,dt,nt,bf,Za,Zt,Zf,Zn,Zo,wr,rdn hc,rdn hx,Bool.false_or,h5]
theorem cellFits_l0 {k:Nat} (hk:2000041 ≤ k) {H0:Hp} {gs s xs:Sl} {given g:List Int} {rs:List R} {N:Nat} (hz:PuzAt H0 (N:Int) gs s given rs) (hro:∀ r ∈ rs,R.ok (N:Int) r=true) (hx:Reads .i64 H0 xs g) (hg:gridOk g (N:Int)=true) {at':Nat} (ha:at' < g.length) :
  ∀ (j q fuel:Nat) (H:Hp),q + j=N→j < fuel→H0 <+: H→∃ H',impl_cellFits.l0 (callF PP orc k) k fuel xs at' N N q N gs s H=some (.bool (!cellFrom N g at' q j && (rs.map R.val).all fun r=>!r.2.1.contains (at':Int) || canHoldV N g r),H')∧H0 <+: H':=by
 have hn:=hz.n4
 have hN:2 ≤ N∧N ≤ 4:=by omega
 have hgl:=((gridOk_iff g _).1 hg).2.1
 have hgl':g.length=N * N:=by
  have:N=2 ∨ N=3 ∨ N=4:=by omega
  rcases this with rfl | rfl | rfl <;> omega
 have hxl:=hx.len
 have hsl:=hz.rr.len
 have hrl:=hz.rl
 intro j
 induction j with
 | zero=>
  intro q fuel H hq hf hp
  obtain ⟨fuel,rfl⟩:=Zs fuel (by omega)
  obtain ⟨H',b1,b2⟩:=cellFits_l5 hk hz hro hx hg (at':=at') rs.length 0 k H (by omega) (by omega) hp
  simp only [Int.natCast_zero,List.drop_zero] at b1
  refine ⟨H',?_,b2⟩
  simp (disch:=omega) only [impl_cellFits.l0,impl_cellFits.j2,dt,df,bt,bf,nt,nf,Za,Zy,Zx,Zt,Zf,Zn,Zz,Zi,Zo,wr,AV.toB,AV.toI,AV.toS,if_true,hsl,b1,cellFrom,Bool.true_and]
 | succ j ih=>
  intro q fuel H hq hf hp
  obtain ⟨fuel,rfl⟩:=Zs fuel (by omega)
  obtain ⟨w1,w2,w3,w4⟩:=wdivm N hN (a:=at') (u:=q) (by omega) (by omega)
  have q1:H <+: H ++ [some (Blk.mk false (([((at' / N * N + q:Nat):Int),((q * N + at' % N:Nat):Int)]:List Int).map (.int .i64)))]:=List.prefix_append _ _
  have hnew:=own_reads (own_new 1 H (([((at' / N * N + q:Nat):Int),((q * N + at' % N:Nat):Int)]:List Int).map (.int .i64)) 2 rfl)
  have hx1:=pf_reads (hp.trans q1) hx
  obtain ⟨H',b1,b2⟩:=ih (q + 1) fuel _ (by omega) (by omega) (hp.trans q1)
  rw [show ((q + 1:Nat):Int)=(q:Int) + 1 from rfl] at b1
  rw [cellFrom]
  generalize hA:at' / N * N + q=A at *
  generalize hB:q * N + at' % N=B at *
  have h1:=cellFits_l1 (callF PP orc k) k (impl_cellFits.l0 (callF PP orc k) k fuel) (n:=(N:Int)) (y0:=(N:Int)) (x15:=(N:Int)) (gs:=gs) (s:=s) (at':=at') (q:=q) hnew hx1 ha (by omega) (by simp) (fun c hc=>by
   simp at hc
   rcases hc with rfl | rfl
   ·exact ⟨by omega,by rw [Int.toNat_natCast]; omega,by omega⟩
   ·exact ⟨by omega,by rw [Int.toNat_natCast]; omega,by omega⟩) 2 0 k (by simp) (by omega)
  have e:(([(A:Int),(B:Int)]:List Int).drop 0).any (fun c=>decide (c ≠ (at':Int)) && decide (g.getD c.toNat 0=g.getD at' 0))=((decide (A ≠ at') && decide (g.getD A 0=g.getD at' 0)) || (decide (B ≠ at') && decide (g.getD B 0=g.getD at' 0))):=by
   have eA:decide ((A:Int) ≠ (at':Int))=decide (A ≠ at'):=decide_eq_decide.2 (by omega)
   have eB:decide ((B:Int) ≠ (at':Int))=decide (B ≠ at'):=decide_eq_decide.2 (by omega)
   simp only [List.drop_zero,List.any_cons,List.any_nil,Zn,Bool.or_false,eA,eB]
  rw [e] at h1
  simp only [List.map_cons,List.map_nil,Zl,Zm,Int.natCast_zero] at h1 b1
  have z1:((N:Int)=0)=False:=by simp; omega
  cases hc:(decide (A ≠ at') && decide (g.getD A 0=g.getD at' 0)) || (decide (B ≠ at') && decide (g.getD B 0=g.getD at' 0)) with
  | true=>
   rw [hc] at h1
   refine ⟨_,?_,hp.trans q1⟩
   rw [← Bool.or_assoc,hc]
   simp only [impl_cellFits.l0,dt (show (q:Int) < (N:Int) by omega),Zt,z1,if_false,w1,w2,hA,hB,h1,List.map_cons,List.map_nil,Bool.true_or,Zy,Bool.false_and]
  | false=>
   rw [hc] at h1
   refine ⟨H',?_,b2⟩
   rw [← Bool.or_assoc,hc]
   simp only [impl_cellFits.l0,dt (show (q:Int) < (N:Int) by omega),Zt,Zf,z1,if_false,w1,w2,hA,hB,h1,Bool.false_or,b1]
theorem cellFits_ok {k:Nat} (hk:2000042 ≤ k) {H:Hp} {n:Int} {gs s xs:Sl} {given g:List Int} {rs:List R} (hz:PuzAt H n gs s given rs) (hro:∀ r ∈ rs,R.ok n r=true) (hx:Reads .i64 H xs g) (hg:gridOk g n=true) {at':Nat} (ha:at' < g.length) :
  ∃ H',callF PP orc k impl_cellFits.id [.agg [.int .i64 n,.sl 1 gs,.sl 3 s],.sl 1 xs,.int .i64 (at':Int)] H=some (.bool (cellFitsV n (rs.map R.val) g at'),H')∧H <+: H':=by
 obtain ⟨k,rfl⟩:=Zs k (by omega)
 rw [impl_cellFits.call]
 have hn:=hz.n4
 obtain ⟨N,rfl⟩:=Int.eq_ofNat_of_zero_le (show 0 ≤ n by omega)
 obtain ⟨H',a1,a2⟩:=cellFits_l0 (show 2000041 ≤ k by omega) hz hro hx hg ha N 0 k H (by omega) (by omega) (List.prefix_refl _)
 exact ⟨H',a1,a2⟩
end Go.Proofs.Ytjikkamhljbipaa.Rp
