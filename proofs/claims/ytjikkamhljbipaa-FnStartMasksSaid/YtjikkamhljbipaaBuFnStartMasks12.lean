/- Texts for the row of the law FnStartMasks, part 12: the plain machine, the program's functions on it, what they come to. No conditions. -/
import Derived.Test.YtjikkamhljbipaaBuFnStartMasks11
import Derived.Test.YtjikkamhljbipaaBuFnStartMasks10
import Derived.Test.YtjikkamhljbipaaBuFnStartMasks6
import Derived.Test.YtjikkamhljbipaaBuFnStartMasks7
import Derived.Test.YtjikkamhljbipaaBuFnStartMasks9
import Derived.Test.YtjikkamhljbipaaBuFnStartMasks8
set_option linter.unusedVariables false
set_option linter.unusedSimpArgs false
namespace Go.Proofs.Ytjikkamhljbipaa.Rp
open Go Go.RowKit Go.Proofs.Ytjikkamhljbipaa.Ab
theorem ext_getD {a b:List Int} (hl:a.length=b.length) (h:∀ i,i < a.length→a.getD i 0=b.getD i 0):a=b:=by
 apply List.ext_getElem hl
 intro i h1 h2
 have:=h i h1
 rw [List.getD_eq_getElem?_getD,List.getElem?_eq_getElem h1,List.getD_eq_getElem?_getD,List.getElem?_eq_getElem h2] at this
 exact this
theorem grid_set'' {g:List Int} {n:Int} (h:gridOk g n=true) (i:Nat) (v:Int) (hv:0 ≤ v∧v ≤ n):gridOk (g.set i v) n=true:=by
 obtain ⟨h1,h2,h3⟩:=(gridOk_iff g n).1 h
 refine (gridOk_iff _ n).2 ⟨h1,by simpa using h2,fun x hx=>?_⟩
 rcases List.mem_or_eq_of_mem_set hx with h | h
 ·exact h3 x h
 ·subst h; exact hv
theorem Le.up {g x:List Int} (h:Le g x) {i:Nat} (hi:i < g.length):Le (g.set i (x.getD i 0)) x:=⟨by simpa using h.1,fun j=>by
 rw [getD_set]
 split
 ·rename_i e; right; rw [e.1]
 ·exact h.2 j⟩
theorem Le.set {g:List Int} {i:Nat} (h0:g.getD i 0=0) (v:Int):Le g (g.set i v):=⟨by simp,fun j=>by
 rw [getD_set]
 split
 ·rename_i e; left; rw [← e.1]; exact h0
 ·exact .inr rfl⟩
def full (x:List Int):Prop:=∀ i,i < x.length→0 < x.getD i 0
theorem mem_sols {n:Int} {f:List Int→Bool} (hf:∀ g' g,Le g' g→gridOk g n=true→f g=true→f g'=true):∀ (rem:Nat) (g:List Int),rem ≤ g.length→gridOk g n=true→(∀ i,i < g.length - rem→0 < g.getD i 0)→f g=true→∀ x,x ∈ sols f n.toNat rem g ↔ gridOk x n=true∧Le g x∧full x∧f x=true:=by
 intro rem
 induction rem with
 | zero=>
  intro g hr hg hfu hfg x
  rw [sols,List.mem_singleton]
  constructor
  ·rintro rfl
   exact ⟨hg,Le.refl _,fun i hi=>hfu i (by omega),hfg⟩
  ·rintro ⟨h1,h2,h3,h4⟩
   refine (ext_getD h2.1 fun i hi=>?_).symm
   have:=hfu i (by omega)
   rcases h2.2 i with e | e
   ·omega
   ·exact e
 | succ rem ih=>
  intro g hr hg hfu hfg x
  have hat:g.length - (rem + 1) < g.length:=by omega
  obtain ⟨hn,h2,h3⟩:=(gridOk_iff g n).1 hg
  by_cases c:0 < g.getD (g.length - (rem + 1)) 0
  ·rw [sols,if_pos c]
   refine ih g (by omega) hg (fun i hi=>?_) hfg x
   by_cases e:i=g.length - (rem + 1)
   ·rw [e]; exact c
   ·exact hfu i (by omega)
  ·rw [sols,if_neg c,List.mem_flatMap]
   have hv:=h3 _ (mem_getD hat)
   have h0:g.getD (g.length - (rem + 1)) 0=0:=by omega
   have go:∀ v,1 ≤ v∧v ≤ n→f (g.set (g.length - (rem + 1)) v)=true→(x ∈ sols f n.toNat rem (g.set (g.length - (rem + 1)) v) ↔ gridOk x n=true∧Le (g.set (g.length - (rem + 1)) v) x∧full x∧f x=true):=fun v hv1 hfv=>by
    refine ih _ (by simp; omega) (grid_set'' hg _ v ⟨by omega,by omega⟩) (fun i hi=>?_) hfv x
    rw [List.length_set] at hi
    rw [getD_set]
    split
    ·omega
    ·rename_i e
     exact hfu i (by omega)
   constructor
   ·rintro ⟨v,hv1,hx⟩
    rw [mem_upto] at hv1
    split at hx
    ·rename_i hfv
     obtain ⟨q1,q2,q3,q4⟩:=(go v (by omega) hfv).1 hx
     exact ⟨q1,(Le.set h0 v).trans q2,q3,q4⟩
    ·cases hx
   ·rintro ⟨q1,q2,q3,q4⟩
    obtain ⟨_,l2,l3⟩:=(gridOk_iff x n).1 q1
    have hlx:g.length - (rem + 1) < x.length:=by rw [← q2.1]; exact hat
    have hxv:=l3 _ (mem_getD hlx)
    have hxp:=q3 _ hlx
    have hup:=q2.up hat
    have hfv:=hf _ _ hup q1 q4
    refine ⟨x.getD (g.length - (rem + 1)) 0,(mem_upto _ _ _).2 (by omega),?_⟩
    rw [if_pos hfv]
    exact (go _ (by omega) hfv).2 ⟨q1,hup,q3,q4⟩
theorem puzzleV_grid {n:Int} {given:List Int} {vs:List V} (h:puzzleV n given vs=true):gridOk given n=true∧vs.all (ruleOkV n)=true:=by
 unfold puzzleV at h
 simp only [Bool.and_eq_true] at h
 exact ⟨h.1,h.2.2⟩
theorem mem_allSols {n:Int} {given:List Int} {vs:List V} (hp:puzzleV n given vs=true) (x:List Int):x ∈ allSols n given vs ↔ gridOk x n=true∧Le given x∧full x∧fitsV n given vs x=true:=by
 obtain ⟨hg,hv⟩:=puzzleV_grid hp
 have anti:∀ g' g,Le g' g→gridOk g n=true→fitsV n given vs g=true→fitsV n given vs g'=true:=fun g' g h1 h2 h3=>fits_anti h1 h2 hv h3
 unfold allSols
 by_cases c:puzzleFitsV n given vs given=true
 ·rw [if_pos c]
  have c':=c
  unfold puzzleFitsV at c'
  simp only [Bool.and_eq_true] at c'
  exact mem_sols anti _ _ (Nat.le_refl _) hg (fun i hi=>by omega) c'.2.2 x
 ·rw [if_neg c]
  constructor
  ·intro h; cases h
  ·rintro ⟨h1,h2,h3,h4⟩
   refine absurd ?_ c
   unfold puzzleFitsV
   rw [hp,hg,anti _ _ h2 h1 h4]; rfl

theorem filled_eq {g:List Int}:filled g=g.length ↔ full g:=by
 unfold filled full
 rw [List.countP_eq_length]
 constructor
 ·intro h i hi; simpa using h _ (mem_getD hi)
 ·intro h v hv
  obtain ⟨i,hi,rfl⟩:=List.getElem_of_mem hv
  have:=h i hi
  rw [List.getD_eq_getElem?_getD,List.getElem?_eq_getElem hi] at this
  simpa using this
theorem maskOk_iff {n m:Int}:maskOk n m=true ↔ (0 ≤ m∧m ≤ topMask n)∧m.tmod 2=0:=by
 unfold maskOk
 simp
theorem tab_has0:∀ a:Nat,a < 32→((a:Int)).tmod 2=0→a.testBit 0=false:=by decide +kernel
theorem mv_has {n m:Int} (hm:maskOk n m=true) (v:Nat):has m v=true ↔ (v:Int) ∈ maskVals m:=by
 obtain ⟨h1,h2⟩:=maskOk_iff.1 hm
 have ht:=topMask_le n
 have hM:=maskOk_M hm
 rw [mem_maskVals ⟨h1.1,by omega⟩ h2,Int.toNat_natCast]
 constructor
 ·intro h
  refine ⟨?_,h⟩
  by_cases h5:5 ≤ v
  ·rw [has_big hM h5] at h; cases h
  ·by_cases h0:v=0
   ·subst h0
    obtain ⟨a,rfl,ha⟩:=hM.nat
    unfold has at h
    rw [Int.toNat_natCast,tab_has0 a ha h2] at h; cases h
   ·omega
 ·intro h; exact h.2
def InM (l g:List Int):Prop:=∀ i,i < g.length→has (l.getD i 0) (g.getD i 0).toNat=true
theorem masks_at {n:Int} {l:List Int} (h:masksOk n l=true) {i:Nat} (hi:i < l.length):maskOk n (l.getD i 0)=true:=(masksOk_iff.1 h).2.1 _ (mem_getD hi)
theorem InM.mem {n:Int} {l g:List Int} (h:InM l g) (hl:masksOk n l=true) (hg:gridOk g n=true) {i:Nat} (hi:i < g.length):g.getD i 0 ∈ maskVals (l.getD i 0):=by
 have h1:=h i hi
 have e:=((gridOk_iff g n).1 hg).2.1
 have e2:=(masksOk_iff.1 hl).2.2
 rw [mv_has (masks_at hl (show i < l.length by omega))] at h1
 have hv:=((gridOk_iff g n).1 hg).2.2 _ (mem_getD hi)
 rw [show (((g.getD i 0).toNat:Nat):Int)=g.getD i 0 by omega] at h1
 exact h1
theorem square_len {n:Int} {l g:List Int} (hl:masksOk n l=true) (hg:gridOk g n=true):g.length=l.length:=by
 have e:=((gridOk_iff g n).1 hg).2.1
 have e2:=(masksOk_iff.1 hl).2.2
 omega
def SubM (a b:List Int):Prop:=a.length=b.length∧∀ i v:Nat,i < b.length→has (a.getD i 0) v=true→has (b.getD i 0) v=true
theorem SubM.refl (a:List Int):SubM a a:=⟨rfl,fun _ _ _ h=>h⟩
theorem SubM.trans {a b c:List Int} (h:SubM a b) (h':SubM b c):SubM a c:=⟨h.1.trans h'.1,fun i v hi hv=>h'.2 i v hi (h.2 i v (by rw [h'.1]; exact hi) hv)⟩
theorem InM.up {a b g:List Int} (h:InM a g) (hs:SubM a b) (hl:g.length=b.length):InM b g:=fun i hi=>hs.2 i _ (by omega) (h i hi)
theorem or_of_sub {a b:Nat} (h:∀ v:Nat,a.testBit v=true→b.testBit v=true):a ||| b=b:=by
 refine Nat.eq_of_testBit_eq fun v=>?_
 rw [Nat.testBit_or]
 cases e:a.testBit v with
 | false=>simp
 | true=>rw [h v e]; rfl
theorem tab_even:∀ a:Nat,a < 32→∀ b:Nat,b < 32→a ||| b=b→((b:Int)).tmod 2=0→((a:Int)).tmod 2=0:=by decide +kernel
theorem mask_sub {n a b:Int} (ha:M a) (hb:maskOk n b=true) (h:∀ v:Nat,has a v=true→has b v=true):maskOk n a=true:=by
 obtain ⟨h1,h2⟩:=maskOk_iff.1 hb
 have hM:=maskOk_M hb
 obtain ⟨x,rfl,hx⟩:=ha.nat
 obtain ⟨y,rfl,hy⟩:=hM.nat
 have e:x ||| y=y:=or_of_sub fun v hv=>h v (by unfold has; rw [Int.toNat_natCast]; exact hv)
 have hle:x ≤ y:=by rw [← e]; exact Nat.left_le_or
 exact maskOk_iff.2 ⟨⟨by omega,by omega⟩,tab_even x hx y hy e h2⟩
theorem Sub.subM {l l':List Int} {P:Nat→Nat→Prop} (h:Sub l l' P):SubM l' l:=⟨h.len,fun i v hi hv=>((h.has i v hi).1 hv).1⟩
theorem masks_subM {n:Int} {a b:List Int} (ha:Ms a) (hb:masksOk n b=true) (h:SubM a b):masksOk n a=true:=by
 obtain ⟨h1,h2,h3⟩:=masksOk_iff.1 hb
 refine masksOk_iff.2 ⟨h1,fun m hm=>?_,by rw [h.1]; exact h3⟩
 obtain ⟨i,hi,rfl⟩:=List.getElem_of_mem hm
 have e:a.getD i 0=a[i]:=by simp [List.getD_eq_getElem?_getD,hi]
 have hib:i < b.length:=by rw [← h.1]; exact hi
 rw [← e]
 exact mask_sub (ha.at i) (masks_at hb hib) fun v hv=>h.2 i v hib hv
theorem Sub.ok {n:Int} {l l':List Int} {P:Nat→Nat→Prop} (h:Sub l l' P) (hl:masksOk n l=true):masksOk n l'=true:=masks_subM h.ms hl h.subM
def NilOr (H0 H:Hp) (t:Sl) (l:List Int):Prop:=(t=Sl.none∧l=[]) ∨ Own 1 H0 H t (l.map (.int .i64))
theorem NilOr.reads {H0 H:Hp} {t:Sl} {l:List Int} (h:NilOr H0 H t l):Reads .i64 H t l:=by
 rcases h with ⟨h1,h2⟩ | h
 ·subst h1; subst h2; exact reads_nil rfl
 ·exact own_reads h
theorem NilOr.pf {H0 H H':Hp} {t:Sl} {l:List Int} (h:NilOr H0 H t l) (g:H <+: H'):NilOr H0 H' t l:=by
 rcases h with h | h
 ·exact .inl h
 ·exact .inr (own_pf h g)
theorem NilOr.base {H0 H1 H:Hp} {t:Sl} {l:List Int} (h:NilOr H1 H t l) (g:H0 <+: H1):NilOr H0 H t l:=by
 rcases h with h | h
 ·exact .inl h
 ·exact .inr (own_base h g)
theorem NilOr.nn {H0 H:Hp} {t:Sl} {l:List Int} (h:NilOr H0 H t l) (hl:l ≠ []):t.nil=false:=by
 rcases h with ⟨_,h⟩ | h
 ·exact absurd h hl
 ·exact h.nn
theorem all_getD {p:Int→Bool} {l:List Int} {i:Nat} (h:i < l.length):(l.drop i).all p=(p (l.getD i 0) && (l.drop (i + 1)).all p):=by
 rw [List.drop_eq_getElem_cons h,List.all_cons,List.getD_eq_getElem?_getD,List.getElem?_eq_getElem h]; rfl
theorem tab_andnot:∀ n:Nat,n < 5→∀ m:Nat,m < 64→(n < 2 ∨ ((IntKind.i64.wrap (((BitVec.ofInt IntKind.i64.bits ((m:Nat):Int) &&& ~~~(BitVec.ofInt IntKind.i64.bits (topMask n))).toNat:Int))) != 0)=!maskOk n m):=by decide +kernel
theorem implMasksValid_l2 {k:Nat} (hk:1 ≤ k) {n:Int} (hn:2 ≤ n∧n ≤ 4) {H:Hp} {s:Sl} {l:List Int} (hs:Reads .i64 H s l) (hl:l.length ≤ 1000) (hr:∀ m ∈ l,-2 ≤ m∧m ≤ 63) :
  ∀ (j i fuel:Nat),i + j=l.length→j < fuel→impl_MasksValid.l2 (callF PP orc k) k fuel n s (l.length:Int) i H=some (.bool ((l.drop i).all (maskOk n)),H):=by
 have hsl:=hs.len
 intro j
 induction j with
 | zero=>
  intro i fuel hi hf
  obtain ⟨fuel,rfl⟩:=Zs fuel (by omega)
  rw [List.drop_eq_nil_of_le (by omega)]
  simp (disch:=omega) only [impl_MasksValid.l2,dt,df,bt,bf,nt,nf,Za,Zy,Zx,Zt,Zf,Zn,Zz,Zi,Zo,wr,AV.toB,AV.toI,AV.toS,if_true,List.all_nil]
 | succ j ih=>
  intro i fuel hi hf
  obtain ⟨fuel,rfl⟩:=Zs fuel (by omega)
  have hi2:i < l.length:=by omega
  have hm:=hr _ (mem_getD hi2)
  have d1:=ih (i + 1) fuel (by omega) (by omega)
  push_cast at d1
  rw [all_getD hi2]
  by_cases c:l.getD i 0 < 0
  ·have e:maskOk n (l.getD i 0)=false:=by
    rw [Bool.eq_false_iff]; intro h; have:=(maskOk_iff.1 h).1; omega
   rw [e,Bool.false_and]
   simp (disch:=omega) only [impl_MasksValid.l2,impl_MasksValid.j3,dt,df,bt,bf,nt,nf,Za,Zy,Zx,Zt,Zf,Zn,Zz,Zi,Zo,wr,AV.toB,AV.toI,AV.toS,if_true,rdn hs]
  ·have ht:=tab_andnot n.toNat (by omega) (l.getD i 0).toNat (by omega)
   rw [show ((n.toNat:Nat):Int)=n by omega,show (((l.getD i 0).toNat:Nat):Int)=l.getD i 0 by omega] at ht
   have ht':=ht.resolve_left (by omega)
   cases e:maskOk n (l.getD i 0) with
   | false=>
    rw [e] at ht'
    simp (disch:=omega) only [impl_MasksValid.l2,impl_MasksValid.j3,dt,df,bt,bf,nt,nf,Za,Zy,Zx,Zt,Zf,Zn,Zz,Zi,Zo,wr,AV.toB,AV.toI,AV.toS,if_true,rdn hs,allValues_ok hk hn,ht',Bool.false_and]
   | true=>
    rw [e] at ht'
    simp (disch:=omega) only [impl_MasksValid.l2,impl_MasksValid.j3,impl_MasksValid.j4,dt,df,bt,bf,nt,nf,Za,Zy,Zx,Zt,Zf,Zn,Zz,Zi,Zo,wr,AV.toB,AV.toI,AV.toS,if_true,rdn hs,allValues_ok hk hn,ht',Bool.true_and,d1]
theorem implMasksValid_ok {k:Nat} (hk:2000000 ≤ k) {n:Int} (hb:-1 ≤ n∧n ≤ 5) {H:Hp} {s:Sl} {l:List Int} (hs:Reads .i64 H s l) (hl:l.length ≤ 1000) (hr:∀ m ∈ l,-2 ≤ m∧m ≤ 63) :
  callF PP orc k impl_MasksValid.id [.sl 1 s,.int .i64 n] H=some (.bool (masksOk n l),H):=by
 obtain ⟨k,rfl⟩:=Zs k (by omega)
 rw [impl_MasksValid.call]
 have hsl:=hs.len
 have h1:=sizeOk_ok (show 1 ≤ k by omega) n H
 have h7:=n7 hb
 unfold masksOk
 by_cases hn:2 ≤ n∧n ≤ 4
 ·rw [decide_eq_true hn] at h1 ⊢
  by_cases c:(l.length:Int)=n * n
  ·have d1:=implMasksValid_l2 (show 1 ≤ k by omega) hn hs hl hr l.length 0 k (by omega) (by omega)
   simp only [Int.natCast_zero,List.drop_zero] at d1
   rw [decide_eq_true c,Bool.and_true,Bool.true_and]
   simp (disch:=omega) only [impl_MasksValid.f,impl_MasksValid.j0,impl_MasksValid.j1,dt,df,bt,bf,nt,nf,Za,Zy,Zx,Zt,Zf,Zn,Zz,Zi,Zo,wr,AV.toB,AV.toI,AV.toS,if_true,h1,hsl,wr (n:=n * n),nf c,d1]
  ·rw [decide_eq_false c,Bool.and_false,Bool.and_false]
   simp (disch:=omega) only [impl_MasksValid.f,impl_MasksValid.j0,impl_MasksValid.j1,dt,df,bt,bf,nt,nf,Za,Zy,Zx,Zt,Zf,Zn,Zz,Zi,Zo,wr,AV.toB,AV.toI,AV.toS,if_true,h1,hsl,wr (n:=n * n),nt c]
 ·rw [decide_eq_false hn] at h1 ⊢
  rw [Bool.false_and]
  simp only [impl_MasksValid.f,impl_MasksValid.j0,dt,df,bt,bf,nt,nf,Za,Zy,Zx,Zt,Zf,Zn,Zz,Zi,Zo,wr,AV.toB,AV.toI,AV.toS,if_true,h1]
theorem Start_l0 {k:Nat} (hk:2000003 ≤ k) {H0:Hp} {n:Int} {gs s:Sl} {given:List Int} {rs:List R} (hz:PuzAt H0 n gs s given rs) (hv:puzzleV n given (rs.map R.val)=true) :
  ∀ (j i fuel:Nat) (H:Hp) (t:Sl),i + j=given.length→j < fuel→H0 <+: H→Own 1 H0 H t ((openOf n (given.take i)).map (.int .i64)) →
   ∃ t' H',spec_StartMasks.l0 (callF PP orc k) k fuel t i n gs s H=some (.sl 1 t',H')∧H0 <+: H'∧Own 1 H0 H' t' ((openOf n given).map (.int .i64)):=by
 have hg:=(puzzleV_iff hv).1
 obtain ⟨hn,g2,g3⟩:=(gridOk_iff given n).1 hg
 have h16:=gridOk_len hg
 have hgl:=hz.rg.len
 obtain ⟨p1,p2,p3⟩:=topMask_pw hn
 intro j
 induction j with
 | zero=>
  intro i fuel H t hi hf hp ho
  obtain ⟨fuel,rfl⟩:=Zs fuel (by omega)
  refine ⟨t,H,?_,hp,by rw [List.take_of_length_le (by omega)] at ho; exact ho⟩
  simp (disch:=omega) only [spec_StartMasks.l0,spec_StartMasks.j1,spec_StartMasks.j3,dt,df,bt,bf,nt,nf,Za,Zy,Zx,Zt,Zf,Zn,Zz,Zi,Zo,wr,AV.toB,AV.toI,AV.toS,if_true]
 | succ j ih=>
  intro i fuel H t hi hf hp ho
  obtain ⟨fuel,rfl⟩:=Zs fuel (by omega)
  have hi2:i < given.length:=by omega
  obtain ⟨v0,v1⟩:=g3 _ (mem_getD hi2)
  have hzH:=hz.pf hp
  have h1:=specPuzzleValid_ok (show 2000003 ≤ k by omega) hzH.n4 hzH.rg hzH.gl hzH.rr hzH.rl hzH.rc
  rw [puzzle_map,hv] at h1
  have htl:t.len=i:=by have:=ho.len; simp [openOf] at this; omega
  have htk:openOf n (given.take (i + 1))=openOf n (given.take i) ++ [if given.getD i 0 > 0 then pw (given.getD i 0) else topMask n]:=by
   rw [List.take_succ_eq_append_getElem hi2]; unfold openOf
   rw [List.map_append,List.getD_eq_getElem?_getD,List.getElem?_eq_getElem hi2]; rfl
  obtain ⟨H1,a1,a2,a3,a4,a5⟩:=own_app1 ho hp (if given.getD i 0 > 0 then pw (given.getD i 0) else topMask n) (by omega)
  rw [← htk] at a3
  obtain ⟨t',H',b1,b2,b3⟩:=ih (i + 1) fuel H1 _ (by omega) (by omega) a2 a3
  push_cast at b1
  refine ⟨t',H',?_,b2,b3⟩
  by_cases c:given.getD i 0 > 0
  ·rw [ip c] at a1
   simp (disch:=omega) only [spec_StartMasks.l0,spec_StartMasks.j1,spec_StartMasks.j2,spec_StartMasks.j4,dt,df,bt,bf,nt,nf,Za,Zy,Zx,Zt,Zf,Zn,Zz,Zi,Zo,wr,AV.toB,AV.toI,AV.toS,if_true,h1,rdn hzH.rg,iN,m_shl v0,a1,b1]
  ·rw [iN c] at a1
   simp (disch:=omega) only [spec_StartMasks.l0,spec_StartMasks.j1,spec_StartMasks.j2,spec_StartMasks.j4,dt,df,bt,bf,nt,nf,Za,Zy,Zx,Zt,Zf,Zn,Zz,Zi,Zo,wr,AV.toB,AV.toI,AV.toS,if_true,h1,rdn hzH.rg,iN,m_shl (v:=n + 1),p1,a1,b1]
theorem specStartMasks_ok {k:Nat} (hk:2000010 ≤ k) {H:Hp} {n:Int} {gs s:Sl} {given:List Int} {rs:List R} (hz:PuzAt H n gs s given rs) :
  ∃ t H',callF PP orc k spec_StartMasks.id [.agg [.int .i64 n,.sl 1 gs,.sl 3 s]] H=some (.sl 1 t,H')∧H <+: H'∧Own 1 H H' t ((startV n given (rs.map R.val)).map (.int .i64)):=by
 obtain ⟨k,rfl⟩:=Zs k (by omega)
 rw [spec_StartMasks.call]
 have hgl:=hz.rg.len
 have hgz:=hz.gl
 unfold startV
 cases hv:puzzleV n given (rs.map R.val) with
 | true=>
  rw [ip rfl]
  obtain ⟨t',H',b1,b2,b3⟩:=Start_l0 (show 2000003 ≤ k by omega) hz hv given.length 0 k (H ++ [some (Blk.mk false [])]) (Sl.mk false H.length 0 0) (by omega) (by omega) (List.prefix_append _ _) (own_new 1 H [] 0 rfl)
  exact ⟨t',H',b1,b2,b3⟩
 | false=>
  rw [iN (by simp)]
  refine ⟨Sl.mk false H.length 0 0,H ++ [some (Blk.mk false [])],?_,(List.prefix_append _ _),own_new 1 H [] 0 rfl⟩
  have hzH:=hz.pf (List.prefix_append H [some (Blk.mk false [])])
  have h1:=specPuzzleValid_ok (show 2000003 ≤ k by omega) hzH.n4 hzH.rg hzH.gl hzH.rr hzH.rl hzH.rc
  rw [puzzle_map,hv] at h1
  have hf:spec_StartMasks.f (callF PP orc k) k n gs s H=spec_StartMasks.l0 (callF PP orc k) k k (Sl.mk false H.length 0 0) 0 n gs s (H ++ [some (Blk.mk false [])]):=rfl
  rw [hf]
  generalize callF PP orc k=rc at *
  obtain ⟨q,hq⟩:∃ q,k=q + 1:=⟨k - 1,by omega⟩
  rw [hq]
  by_cases c:0 < given.length
  ·simp (disch:=omega) only [spec_StartMasks.l0,spec_StartMasks.j1,spec_StartMasks.j3,dt,df,bt,bf,nt,nf,Za,Zy,Zx,Zt,Zf,Zn,Zz,Zi,Zo,wr,AV.toB,AV.toI,AV.toS,if_true,h1]
  ·simp (disch:=omega) only [spec_StartMasks.l0,spec_StartMasks.j1,spec_StartMasks.j3,dt,df,bt,bf,nt,nf,Za,Zy,Zx,Zt,Zf,Zn,Zz,Zi,Zo,wr,AV.toB,AV.toI,AV.toS,if_true]
theorem iStart_l0 {k:Nat} (hk:2000003 ≤ k) {H0:Hp} {n:Int} {gs s t:Sl} {given:List Int} (hg0:Reads .i64 H0 gs given) (hg:gridOk given n=true) :
  ∀ (j i fuel:Nat) (H:Hp),i + j=given.length→j < fuel→H0 <+: H→Own 1 H0 H t ((openOf n (given.take i) ++ List.replicate j 0).map (.int .i64)) →
   ∃ H',impl_StartMasks.l0 (callF PP orc k) k fuel t gs (given.length:Int) i n gs s H=some (.sl 1 t,H')∧H0 <+: H'∧Own 1 H0 H' t ((openOf n given).map (.int .i64)):=by
 obtain ⟨hn,g2,g3⟩:=(gridOk_iff given n).1 hg
 have h16:=gridOk_len hg
 have hgl:=hg0.len
 have hol:∀ l:List Int,(openOf n l).length=l.length:=fun l=>by simp [openOf]
 intro j
 induction j with
 | zero=>
  intro i fuel H hi hf hp ho
  obtain ⟨fuel,rfl⟩:=Zs fuel (by omega)
  refine ⟨H,?_,hp,?_⟩
  ·simp (disch:=omega) only [impl_StartMasks.l0,impl_StartMasks.j2,df,Zf]
  ·rw [List.take_of_length_le (by omega)] at ho
   simpa using ho
 | succ j ih=>
  intro i fuel H hi hf hp ho
  obtain ⟨fuel,rfl⟩:=Zs fuel (by omega)
  have hi2:i < given.length:=by omega
  obtain ⟨v0,v1⟩:=g3 _ (mem_getD hi2)
  have htl:t.len=given.length:=by have:=(own_reads ho).len; simp [hol] at this; omega
  have hse:∀ v:Int,v=(if given.getD i 0 > 0 then pw (given.getD i 0) else topMask n)→(openOf n (given.take i) ++ List.replicate (j + 1) 0).set i v=openOf n (given.take (i + 1)) ++ List.replicate j 0:=fun v hv=>by
   rw [List.set_append_right _ _ (by rw [hol]; simp; omega),List.take_succ_eq_append_getElem hi2]
   unfold openOf
   rw [List.map_append,List.append_assoc,hv,List.getD_eq_getElem?_getD,List.getElem?_eq_getElem hi2]
   simp [show min i given.length=i by omega,List.replicate_succ]
  have hav:=allValues_ok (show 1 ≤ k by omega) hn H
  obtain ⟨H1,a1,a2,a3,a4⟩:=own_set1 ho hp i (by simp [hol]; omega) (topMask n)
  by_cases c:given.getD i 0 > 0
  ·obtain ⟨H2,b1,b2,b3,b4⟩:=own_set1 a3 a2 i (by simp [hol]; omega) (pw (given.getD i 0))
   have e2:((openOf n (given.take i) ++ List.replicate (j + 1) 0).set i (topMask n)).set i (pw (given.getD i 0))=openOf n (given.take (i + 1)) ++ List.replicate j 0:=by
    rw [List.set_set]; exact hse _ (by rw [if_pos c])
   rw [e2] at b3
   obtain ⟨H',d1,d2,d3⟩:=ih (i + 1) fuel H2 (by omega) (by omega) b2 b3
   push_cast at d1
   refine ⟨H',?_,d2,d3⟩
   simp (disch:=omega) only [impl_StartMasks.l0,impl_StartMasks.j1,dt,Za,Zt,Zn,Zo,AV.toI,if_true,rdn (pf_reads hp hg0),hav,a1,iN,m_shl v0,b1,wr (n:=(i:Int) + 1),d1]
  ·rw [hse _ (by rw [if_neg c])] at a3
   obtain ⟨H',d1,d2,d3⟩:=ih (i + 1) fuel H1 (by omega) (by omega) a2 a3
   push_cast at d1
   refine ⟨H',?_,d2,d3⟩
   simp (disch:=omega) only [impl_StartMasks.l0,impl_StartMasks.j1,dt,df,Za,Zt,Zf,Zn,Zo,AV.toI,if_true,rdn (pf_reads hp hg0),hav,a1,wr (n:=(i:Int) + 1),d1]
theorem implStartMasks_ok {k:Nat} (hk:2000010 ≤ k) {H:Hp} {n:Int} {gs s:Sl} {given:List Int} {rs:List R} (hz:PuzAt H n gs s given rs) :
  ∃ t H',callF PP orc k impl_StartMasks.id [.agg [.int .i64 n,.sl 1 gs,.sl 3 s]] H=some (.sl 1 t,H')∧H <+: H'∧NilOr H H' t (startV n given (rs.map R.val)):=by
 obtain ⟨k,rfl⟩:=Zs k (by omega)
 rw [impl_StartMasks.call]
 have h1:=implPuzzleValid_ok (show 2000003 ≤ k by omega) hz.n4 hz.rg hz.gl hz.rr hz.rl hz.rc
 rw [puzzle_map] at h1
 have hgl:=hz.rg.len
 unfold startV
 cases e1:puzzleV n given (rs.map R.val) with
 | false=>
  rw [e1] at h1
  rw [iN (by simp)]
  exact ⟨Sl.none,H,by simp only [impl_StartMasks.f,dt,df,bt,bf,nt,nf,Za,Zy,Zx,Zt,Zf,Zn,Zz,Zi,Zo,wr,AV.toB,AV.toI,AV.toS,if_true,h1],(List.prefix_refl _),.inl ⟨rfl,rfl⟩⟩
 | true=>
  rw [e1] at h1
  rw [ip rfl]
  have hg:=(puzzleV_grid e1).1
  have h16:=gridOk_len hg
  have hnew:=own_new 1 H ((List.replicate given.length (0:Int)).map (.int .i64)) given.length (by simp)
  obtain ⟨H',b1,b2,b3⟩:=iStart_l0 (show 2000003 ≤ k by omega) (s:=s) hz.rg hg given.length 0 k (H ++ [some (Blk.mk false ((List.replicate given.length (0:Int)).map (.int .i64)))]) (by omega) (by omega) (List.prefix_append _ _) (by
   have e:openOf n (given.take 0)=[]:=rfl
   rw [e,List.nil_append]; exact hnew)
  refine ⟨_,H',?_,b2,.inr b3⟩
  simp only [Int.natCast_zero] at b1
  simp only [impl_StartMasks.f,dt,df,bt,bf,nt,nf,Za,Zy,Zx,Zt,Zf,Zn,Zz,Zi,Zo,wr,AV.toB,AV.toI,AV.toS,if_true,h1,hgl,flat0s]
  rw [ip (by omega),b1]
def hvFrom (m:Int):Nat→Nat→List Int
 | _,0=>[]
 | v,j + 1=>(if has m v=true then [(v:Int)] else []) ++ hvFrom m (v + 1) j
theorem hv_mv {m:Int} (hm:M m):∀ (j v:Nat),v + j ≤ 6→hvFrom m v j=mvFrom m v j
 | 0,v,_=>rfl
 | j + 1,v,h=>by
  have hb:=m_bit (v:=(v:Int)) hm (by omega) (by omega)
  rw [Int.toNat_natCast] at hb
  rw [hvFrom,mvFrom,hv_mv hm j (v + 1) (by omega)]
  unfold mbit
  rw [hb]
theorem iMaskValues_l2 (rec:Rec) (k:Nat) {H0:Hp} {m:Int} (hm:M m):∀ (j v fuel:Nat) (H:Hp) (t:Sl) (a:List Int),v + j=5→j < fuel→H0 <+: H→a.length + j ≤ 10→Own 1 H0 H t (a.map (.int .i64)) →
   ∃ t' H',impl_MaskValues.l2 rec k fuel m t v H=some (.sl 1 t',H')∧H0 <+: H'∧Own 1 H0 H' t' ((a ++ hvFrom m v j).map (.int .i64)):=by
 intro j
 induction j with
 | zero=>
  intro v fuel H t a hv hf hp ha ho
  obtain ⟨fuel,rfl⟩:=Zs fuel (by omega)
  refine ⟨t,H,?_,hp,by simpa [hvFrom] using ho⟩
  simp (disch:=omega) only [impl_MaskValues.l2,impl_MaskValues.j4,df,Zf]
 | succ j ih=>
  intro v fuel H t a hv hf hp ha ho
  obtain ⟨fuel,rfl⟩:=Zs fuel (by omega)
  have hb:=m_bit' (v:=(v:Int)) hm (by omega) (by omega)
  rw [Int.toNat_natCast] at hb
  have htl:=(own_reads ho).len
  cases e:has m v with
  | true=>
   rw [e] at hb
   obtain ⟨H1,a1,a2,a3,a4⟩:=own_app1 ho hp (v:Int) (by omega)
   obtain ⟨t',H',b1,b2,b3⟩:=ih (v + 1) fuel H1 _ (a ++ [(v:Int)]) (by omega) (by omega) a2 (by simp; omega) a3
   push_cast at b1
   refine ⟨t',H',?_,b2,by rw [hvFrom,e]; simpa using b3⟩
   simp (disch:=omega) only [impl_MaskValues.l2,impl_MaskValues.j3,dt,Zt,iN,Zn,hb,a1,Zo,wr (n:=(v:Int) + 1),b1]
  | false=>
   rw [e] at hb
   obtain ⟨t',H',b1,b2,b3⟩:=ih (v + 1) fuel H t a (by omega) (by omega) hp (by omega) ho
   push_cast at b1
   refine ⟨t',H',?_,b2,by rw [hvFrom,e]; simpa using b3⟩
   simp (disch:=omega) only [impl_MaskValues.l2,impl_MaskValues.j3,dt,Zt,Zf,iN,Zn,hb,wr (n:=(v:Int) + 1),b1]
theorem implMaskValues_ok {k:Nat} (hk:2000000 ≤ k) {n m:Int} (hm:maskOk n m=true) (H:Hp):∃ t H',callF PP orc k impl_MaskValues.id [.int .i64 m] H=some (.sl 1 t,H')∧H <+: H'∧Own 1 H H' t ((maskVals m).map (.int .i64)):=by
 obtain ⟨k,rfl⟩:=Zs k (by omega)
 rw [impl_MaskValues.call]
 have hM:=maskOk_M hm
 obtain ⟨h1,h2⟩:=maskOk_iff.1 hm
 have ht:=topMask_le n
 have hv:allValues_ok (show 1 ≤ k by omega) (n:=4) (by omega) H=allValues_ok (show 1 ≤ k by omega) (n:=4) (by omega) H:=rfl
 have ha:=allValues_ok (show 1 ≤ k by omega) (n:=4) (by omega) H
 have hok:maskOk 4 m=true:=maskOk_iff.2 ⟨⟨h1.1,by show m ≤ 30; omega⟩,h2⟩
 have hd:=(tab_andnot 4 (by omega) m.toNat (by omega)).resolve_left (by omega)
 rw [show ((4:Nat):Int)=4 from rfl,show ((m.toNat:Nat):Int)=m by omega,hok] at hd
 have q1:H <+: H ++ [some (Blk.mk false [])]:=List.prefix_append _ _
 obtain ⟨t',H',b1,b2,b3⟩:=iMaskValues_l2 (callF PP orc k) k hM 4 1 k (H ++ [some (Blk.mk false [])]) (Sl.mk false H.length 0 0) [] (by omega) (by omega) q1 (by simp) (own_new 1 H [] 0 rfl)
 rw [List.nil_append,hv_mv hM 4 1 (by omega)] at b3
 refine ⟨t',H',?_,b2,by unfold maskVals; rw [if_pos ⟨⟨h1.1,by omega⟩,h2⟩]; exact b3⟩
 simp only [Int.natCast_one] at b1
 simp (disch:=omega) only [impl_MaskValues.f,impl_MaskValues.j0,impl_MaskValues.j1,df,Zf,ha,Zo,AV.toI,if_true,hd,Zy,b1]
def inB (l g:List Int):Nat→Nat→Bool
 | _,0=>true
 | i,j + 1=>has (l.getD i 0) (g.getD i 0).toNat && inB l g (i + 1) j
theorem inB_iff (l g:List Int):∀ (j i:Nat),inB l g i j=true ↔ ∀ x,i ≤ x→x < i + j→has (l.getD x 0) (g.getD x 0).toNat=true
 | 0,i=>by simp [inB]; intro x h1 h2; omega
 | j + 1,i=>by
  rw [inB,Bool.and_eq_true,inB_iff l g j (i + 1)]
  constructor
  ·rintro ⟨h1,h2⟩ x h3 h4
   by_cases e:x=i
   ·rw [e]; exact h1
   ·exact h2 x (by omega) (by omega)
  ·intro h; exact ⟨h i (by omega) (by omega),fun x h1 h2=>h x (by omega) (by omega)⟩
def haveV (n:Int) (l g:List Int):Bool:=masksOk n l && (gridOk g n && inB l g 0 g.length)
theorem haveV_iff {n:Int} {l g:List Int}:haveV n l g=true ↔ masksOk n l=true∧gridOk g n=true∧InM l g:=by
 unfold haveV InM
 rw [Bool.and_eq_true,Bool.and_eq_true,inB_iff]
 constructor
 ·rintro ⟨a,b,c⟩; exact ⟨a,b,fun i hi=>c i (by omega) (by omega)⟩
 ·rintro ⟨a,b,c⟩; exact ⟨a,b,fun i _ hi=>c i (by omega)⟩
theorem have_full {n:Int} {l g:List Int} (hl:masksOk n l=true) (hg:gridOk g n=true) (h:InM l g):full g:=fun i hi=>(maskVals_mem (h.mem hl hg hi)).1
theorem gr {g:List Int} {n:Int} (hg:gridOk g n=true) {i:Nat} (hi:i < g.length):0 ≤ g.getD i 0∧g.getD i 0 ≤ 4:=by
 obtain ⟨h1,_,h3⟩:=(gridOk_iff g n).1 hg
 have:=h3 _ (mem_getD hi)
 omega
theorem implHave_l2 (rec:Rec) (k:Nat) {H:Hp} {ms xs:Sl} {l g:List Int} {n:Int} (hm:Reads .i64 H ms l) (hx:Reads .i64 H xs g) (hl:masksOk n l=true) (hg:gridOk g n=true) :
  ∀ (j i fuel:Nat),i + j=g.length→j < fuel→impl_MasksHave.l2 rec k fuel ms xs (g.length:Int) i H=some (.bool (inB l g i j),H):=by
 have hml:=hm.len
 have hxl:=hx.len
 have hlen:=square_len hl hg
 have h16:=gridOk_len hg
 have hM:=masks_M hl
 intro j
 induction j with
 | zero=>
  intro i fuel hi hf
  obtain ⟨fuel,rfl⟩:=Zs fuel (by omega)
  simp (disch:=omega) only [impl_MasksHave.l2,dt,df,bt,bf,nt,nf,Za,Zy,Zx,Zt,Zf,Zn,Zz,Zi,Zo,wr,AV.toB,AV.toI,AV.toS,if_true,inB]
 | succ j ih=>
  intro i fuel hi hf
  obtain ⟨fuel,rfl⟩:=Zs fuel (by omega)
  obtain ⟨v0,v4⟩:=gr hg (show i < g.length by omega)
  have d1:=ih (i + 1) fuel (by omega) (by omega)
  push_cast at d1
  have hb:=m_bit0' (hM.at i) v0 (show g.getD i 0 ≤ 5 by omega)
  rw [inB]
  cases e:has (l.getD i 0) (g.getD i 0).toNat with
  | true=>
   rw [e] at hb
   simp (disch:=omega) only [impl_MasksHave.l2,dt,Za,Zy,Zt,Zf,Zn,Zo,rdn hm,rdn hx,iN,hb,wr (n:=(i:Int) + 1),d1,Bool.true_and]
  | false=>
   rw [e] at hb
   simp (disch:=omega) only [impl_MasksHave.l2,dt,Za,Zx,Zt,Zf,Zn,Zo,rdn hm,rdn hx,iN,hb,Bool.false_and]
theorem implMasksHave_ok {k:Nat} (hk:2000010 ≤ k) {H:Hp} {ms xs:Sl} {l g:List Int} {n:Int} (hb:-1 ≤ n∧n ≤ 5) (hm:Reads .i64 H ms l) (hx:Reads .i64 H xs g) (hl:l.length ≤ 1000) (hr:∀ m ∈ l,-2 ≤ m∧m ≤ 63) (hgl:g.length ≤ 1000) :
  callF PP orc k impl_MasksHave.id [.sl 1 ms,.int .i64 n,.sl 1 xs] H=some (.bool (haveV n l g),H):=by
 obtain ⟨k,rfl⟩:=Zs k (by omega)
 rw [impl_MasksHave.call]
 have h1:=implMasksValid_ok (show 2000000 ≤ k by omega) hb hm hl hr
 have h2:=implGridValid_ok (show 2000000 ≤ k by omega) hx (by omega) n
 have h3:=implGridFilled_ok (show 2000001 ≤ k by omega) hx (by omega) n
 have hxl:=hx.len
 unfold haveV
 cases e1:masksOk n l with
 | false=>
  rw [e1] at h1
  simp only [impl_MasksHave.f,impl_MasksHave.j0,dt,df,bt,bf,nt,nf,Za,Zy,Zx,Zt,Zf,Zn,Zz,Zi,Zo,wr,AV.toB,AV.toI,AV.toS,if_true,h1,Bool.false_and]
 | true=>
  rw [e1] at h1
  cases e2:gridOk g n with
  | false=>
   rw [e2] at h2
   simp only [impl_MasksHave.f,impl_MasksHave.j0,dt,df,bt,bf,nt,nf,Za,Zy,Zx,Zt,Zf,Zn,Zz,Zi,Zo,wr,AV.toB,AV.toI,AV.toS,if_true,h1,h2,Bool.false_and,Bool.and_false]
  | true=>
   rw [e2] at h2 h3
   rw [ip rfl] at h3
   by_cases c:(filled g:Int)=(g.length:Int)
   ·have d1:=implHave_l2 (callF PP orc k) k hm hx e1 e2 g.length 0 k (by omega) (by omega)
    simp only [Int.natCast_zero] at d1
    simp only [impl_MasksHave.f,impl_MasksHave.j0,impl_MasksHave.j1,dt,df,bt,bf,nt,nf,Za,Zy,Zx,Zt,Zf,Zn,Zz,Zi,Zo,wr,AV.toB,AV.toI,AV.toS,if_true,h1,h2,h3,hxl,nf c,Bool.true_and,d1]
   ·have e:inB l g 0 g.length=false:=by
     rw [Bool.eq_false_iff]
     intro h
     apply c
     have hf:full g:=have_full e1 e2 fun i hi=>(inB_iff l g _ _).1 h i (by omega) (by omega)
     rw [filled_eq.2 hf]
    rw [e]
    simp only [impl_MasksHave.f,impl_MasksHave.j0,dt,df,bt,bf,nt,nf,Za,Zy,Zx,Zt,Zf,Zn,Zz,Zi,Zo,wr,AV.toB,AV.toI,AV.toS,if_true,h1,h2,h3,hxl,nt c,Bool.true_and]
theorem open_in {n:Int} {given:List Int} {vs:List V} (hp:puzzleV n given vs=true) {x:List Int} (hx:x ∈ allSols n given vs):InM (openOf n given) x:=by
 have hg:=(puzzleV_grid hp).1
 obtain ⟨h1,h2,h3,_⟩:=(mem_allSols hp x).1 hx
 obtain ⟨hn,h5,h6⟩:=(gridOk_iff x n).1 h1
 have hok:=openOf_ok hg
 intro i hi
 have hig:i < given.length:=by rw [h2.1]; exact hi
 have hv:=h6 _ (mem_getD hi)
 have hpos:=h3 i hi
 rw [mv_has (masks_at hok (by rw [show (openOf n given).length=given.length by simp [openOf]]; exact hig)),show (((x.getD i 0).toNat:Nat):Int)=x.getD i 0 by omega,open_vals hg hig]
 refine ⟨by omega,fun h=>?_⟩
 rcases h2.2 i with e | e
 ·omega
 ·exact e.symm
theorem solG {n:Int} {given:List Int} {vs:List V} (hp:puzzleV n given vs=true) {x:List Int} (hx:x ∈ allSols n given vs):gridOk x n=true∧full x:=⟨((mem_allSols hp x).1 hx).1,((mem_allSols hp x).1 hx).2.2.1⟩
theorem sameInts_l0 (rec:Rec) (k:Nat) {H:Hp} {s t:Sl} {x y:List Int} (hs:Reads .i64 H s x) (ht:Reads .i64 H t y) (hl:x.length=y.length) (h1:x.length ≤ 1000) :
  ∀ (j i fuel:Nat),i + j=x.length→j < fuel→laws_sameInts.l0 rec k fuel s t i H=some (.bool (decide (x.drop i=y.drop i)),H):=by
 have hsl:=hs.len
 have htl:=ht.len
 intro j
 induction j with
 | zero=>
  intro i fuel hi hf
  obtain ⟨fuel,rfl⟩:=Zs fuel (by omega)
  rw [List.drop_eq_nil_of_le (show x.length ≤ i by omega),List.drop_eq_nil_of_le (show y.length ≤ i by omega)]
  simp (disch:=omega) only [laws_sameInts.l0,dt,df,bt,bf,nt,nf,Za,Zy,Zx,Zt,Zf,Zn,Zz,Zi,Zo,wr,AV.toB,AV.toI,AV.toS,if_true]
  rfl
 | succ j ih=>
  intro i fuel hi hf
  obtain ⟨fuel,rfl⟩:=Zs fuel (by omega)
  have hx:i < x.length:=by omega
  have hy:i < y.length:=by omega
  have ex:x.drop i=x.getD i 0 :: x.drop (i + 1):=by
   rw [List.drop_eq_getElem_cons hx,List.getD_eq_getElem?_getD,List.getElem?_eq_getElem hx]; rfl
  have ey:y.drop i=y.getD i 0 :: y.drop (i + 1):=by
   rw [List.drop_eq_getElem_cons hy,List.getD_eq_getElem?_getD,List.getElem?_eq_getElem hy]; rfl
  rw [ex,ey]
  by_cases c:x.getD i 0=y.getD i 0
  ·have d1:=ih (i + 1) fuel (by omega) (by omega)
   push_cast at d1
   rw [show decide (x.getD i 0 :: x.drop (i + 1)=y.getD i 0 :: y.drop (i + 1))=decide (x.drop (i + 1)=y.drop (i + 1)) by rw [c]; simp,← d1]
   simp (disch:=omega) only [laws_sameInts.l0,dt,df,bt,bf,nt,nf,Za,Zy,Zx,Zt,Zf,Zn,Zz,Zi,Zo,wr,AV.toB,AV.toI,AV.toS,if_true,rdn hs,rdn ht,nf]
  ·rw [show decide (x.getD i 0 :: x.drop (i + 1)=y.getD i 0 :: y.drop (i + 1))=false from decide_eq_false fun h=>c (List.cons.inj h).1]
   simp (disch:=omega) only [laws_sameInts.l0,dt,df,bt,bf,nt,nf,Za,Zy,Zx,Zt,Zf,Zn,Zz,Zi,Zo,wr,AV.toB,AV.toI,AV.toS,if_true,rdn hs,rdn ht,nt]
theorem sameInts_ok {k:Nat} (hk:2000000 ≤ k) {H:Hp} {s t:Sl} {x y:List Int} (hs:Reads .i64 H s x) (ht:Reads .i64 H t y) (h1:x.length ≤ 1000) (h2:y.length ≤ 1000) :
  callF PP orc k laws_sameInts.id [.sl 1 s,.sl 1 t] H=some (.bool (decide (x=y)),H):=by
 obtain ⟨k,rfl⟩:=Zs k (by omega)
 rw [laws_sameInts.call]
 have hsl:=hs.len
 have htl:=ht.len
 by_cases c:x.length=y.length
 ·have d1:=sameInts_l0 (callF PP orc k) k hs ht c h1 x.length 0 k (by omega) (by omega)
  simp only [Int.natCast_zero,List.drop_zero] at d1
  rw [← d1]
  simp (disch:=omega) only [laws_sameInts.f,dt,df,bt,bf,nt,nf,Za,Zy,Zx,Zt,Zf,Zn,Zz,Zi,Zo,wr,AV.toB,AV.toI,AV.toS,if_true]
 ·rw [decide_eq_false (fun h=>c (congrArg List.length h))]
  simp (disch:=omega) only [laws_sameInts.f,dt,df,bt,bf,nt,nf,Za,Zy,Zx,Zt,Zf,Zn,Zz,Zi,Zo,wr,AV.toB,AV.toI,AV.toS,if_true]
theorem same_ok {k:Nat} (hk:2000000 ≤ k) {H:Hp} {s t:Sl} {x:List Int} (hs:Reads .i64 H s x) (ht:Reads .i64 H t x) (h1:x.length ≤ 1000) :
  callF PP orc k laws_sameInts.id [.sl 1 s,.sl 1 t] H=some (.bool true,H):=by
 rw [sameInts_ok hk hs ht h1 h1,decide_eq_true rfl]
def seenC (seen:List Int):List AV:=(List.range 5).map fun (v:Nat)=>.bool (seen.contains (v:Int))
theorem seen_set (seen:List Int) (v:Nat) (hv:v < 5):(seenC seen).take v ++ [.bool true] ++ (seenC seen).drop (v + 1)=seenC ((v:Int) :: seen):=by
 apply List.ext_getElem?
 intro i
 have h0:(seenC seen).length=5:=by simp [seenC]
 have e:(seenC seen).take v ++ [.bool true] ++ (seenC seen).drop (v + 1)=(seenC seen).set v (.bool true):=by
  rw [List.set_eq_take_append_cons_drop,if_pos (by omega)]; simp
 rw [e]
 by_cases hi:i=v
 ·subst hi
  rw [List.getElem?_set_self (by omega)]
  simp [seenC,hv]
 ·rw [List.getElem?_set_ne (by omega)]
  by_cases h5:i < 5
  ·simp [seenC,h5,hi]
   intro e'; omega
  ·rw [List.getElem?_eq_none (by omega),List.getElem?_eq_none (by simp [seenC]; omega)]
theorem reads_ne {H:Hp} {s:Sl} {l:List Int} {k:IntKind} {b:Nat} {seen:List Int} (hr:Reads k H s l) (hl:l ≠ []) (hb:H[b]?=some (some ⟨false,seenC seen⟩)):s.blk ≠ b:=by
 intro e
 have h0:0 < l.length:=List.length_pos_iff.2 hl
 have:=hr.cell 0 h0
 unfold Hp.cell at this
 rw [e,hb] at this
 simp only at this
 have hm:=List.mem_of_getElem? this
 unfold seenC at hm
 obtain ⟨v,_,hv⟩:=List.mem_map.1 hm
 cases hv
theorem But.reads' {b:Nat} {H H':Hp} (h:But b H H') {k:IntKind} {s:Sl} {l:List Int} {seen:List Int} (hb:H[b]?=some (some ⟨false,seenC seen⟩)) (hr:Reads k H s l):Reads k H' s l:=by
 by_cases hl:l=[]
 ·subst hl; exact reads_nil hr.len
 ·exact h.reads (reads_ne hr hl hb) hr
theorem implSquareFits_l1 (rec:Rec) (k:Nat) (L0:Sl→Int→Int→Int→Hp→An) {H0:Hp} {s t:Sl} {g cells:List Int} {n top line:Int} {b:Nat} (hs:Reads .i64 H0 s g)
  (hc:∀ c ∈ cells,0 ≤ c∧c < (g.length:Int)) (hg:∀ v ∈ g,0 ≤ v∧v ≤ 4) (hl:cells.length ≤ 1000) (hline:IntKind.i64.wrap (line + 1)=line + 1) :
  ∀ (j i fuel:Nat) (H:Hp) (seen:List Int),i + j=cells.length→j < fuel→H0 <+: H→Own 1 H0 H (Sl.mk false b 0 5) (seenC seen)→Reads .i64 H t cells →
   ∃ H',H0 <+: H'∧impl_SquareFits.l1 rec k L0 fuel s n b 0 top line t cells.length i H=bif clashL g (cells.drop i) seen then some (.bool false,H') else L0 s n top (line + 1) H':=by
 intro j
 induction j with
 | zero=>
  intro i fuel H seen hi hf hp ho ht
  obtain ⟨fuel,rfl⟩:=Zs fuel (by omega)
  refine ⟨H,hp,?_⟩
  simp [impl_SquareFits.l1,impl_SquareFits.j3,show ¬ i < cells.length by omega,List.drop_eq_nil_of_le (show cells.length ≤ i by omega),clashL,hline]
 | succ j ih=>
  intro i fuel H seen hi hf hp ho ht
  obtain ⟨fuel,rfl⟩:=Zs fuel (by omega)
  have h1:=ht.len
  have h2:i < cells.length:=by omega
  have h3:=reads_at ht i h2
  have h4:=wrs (i:=i) (by omega)
  obtain ⟨c0,c1⟩:=hc _ (List.getElem_mem h2)
  have h5:=gv_at (pf_reads hp hs) c0 c1
  obtain ⟨v0,v1⟩:=hg _ (gv_mem c0 c1)
  rw [List.drop_eq_getElem_cons h2]
  simp only [clashL]
  obtain ⟨v,hv⟩:=Int.eq_ofNat_of_zero_le v0
  rw [hv] at h5 ⊢
  have hv5:v < 5:=by omega
  have hsl:=hs.len
  obtain ⟨H1,a1,a2,a3,a4,a5⟩:=own_sto ho hp v [.bool true] (by simp [seenC]; omega)
  rw [show v + [AV.bool true].length=v + 1 from rfl,seen_set seen v hv5] at a3
  simp only [Nat.zero_add] at a1
  obtain ⟨H',b1,b2⟩:=ih (i + 1) fuel H1 ((v:Int) :: seen) (by omega) (by omega) a2 a3 (a4.reads' ho.get ht)
  rw [show ((i + 1:Nat):Int)=(i:Int) + 1 by omega] at b2
  have q1:((i:Int) < (t.len:Int)):=by omega
  have q2:((i:Int) < (cells.length:Int)):=by omega
  have q0:(0:Int) ≤ (i:Int):=by omega
  have z0:(0:Int) ≤ (v:Int):=by omega
  have z3:(v:Int) < ((5:Nat):Int):=by omega
  have c1':cells[i] < (s.len:Int):=by omega
  have hld:ldB H b v=some (seen.contains (v:Int)):=by
   have:=own_cell ho v
   simp only [Nat.zero_add] at this
   unfold ldB
   rw [this]
   simp [seenC,hv5,AV.toB]
  by_cases hp':0 < v
  ·have z1:((v:Int) > 0):=by omega
   have z2:(0:Int) < (v:Int):=z1
   cases hse':seen.contains (v:Int) with
   | true=>
    rw [hse'] at hld
    refine ⟨H,hp,?_⟩
    simp only [impl_SquareFits.l1,impl_SquareFits.j2,impl_SquareFits.j4,impl_SquareFits.j5,q0,q1,q2,c0,c1',z0,z1,z2,z3,decide_true,Za,Zt,Zf,Zn,Nat.mul_one,Nat.zero_add,h3,h5,Zo,hld,Bool.true_or]
   | false=>
    rw [hse'] at hld
    refine ⟨H',b1,?_⟩
    simp only [impl_SquareFits.l1,impl_SquareFits.j2,impl_SquareFits.j4,impl_SquareFits.j5,q0,q1,q2,c0,c1',z0,z1,z2,z3,decide_true,Za,Bool.and_false,Zt,Zf,Zn,Nat.mul_one,Nat.zero_add,h3,h5,Zo,hld,Bool.false_or,a1,h4,b2]
  ·have z1:¬ ((v:Int) > 0):=by omega
   have z2:¬ (0:Int) < (v:Int):=z1
   refine ⟨H',b1,?_⟩
   simp only [impl_SquareFits.l1,impl_SquareFits.j2,impl_SquareFits.j4,impl_SquareFits.j5,q0,q1,q2,c0,c1',z0,z1,z2,z3,decide_true,decide_false,Za,Bool.false_and,Zt,Zf,Zn,Nat.mul_one,Nat.zero_add,h3,h5,Zo,Bool.false_or,a1,h4,b2]
theorem implSquareFits_l0 {k:Nat} (hk:2000000 ≤ k) {H0:Hp} {s:Sl} {g:List Int} {n:Int} (hs:Reads .i64 H0 s g) (hg:gridOk g n=true) :
  ∀ (j fuel line:Nat) (H:Hp),(line:Int) + j=2 * n→j < fuel→H0 <+: H →
   ∃ H',impl_SquareFits.l0 (callF PP orc k) k fuel s n (2 * n) line H=some (.bool (!clashFrom g n line j),H')∧H0 <+: H':=by
 obtain ⟨⟨n1,n2⟩,n3,n4⟩:=(gridOk_iff g n).1 hg
 intro j
 induction j with
 | zero=>
  intro fuel line H hl hf hp
  obtain ⟨fuel,rfl⟩:=Zs fuel (by omega)
  refine ⟨H,?_,hp⟩
  have:¬ ((line:Int) < 2 * n):=by omega
  simp only [impl_SquareFits.l0,this,decide_false,Zf,clashFrom,Zx]
 | succ j ih=>
  intro fuel line H hl hf hp
  obtain ⟨fuel,rfl⟩:=Zs fuel (by omega)
  have q1:((line:Int) < 2 * n):=by omega
  have hnew:=own_base (own_new 1 H [.bool false,.bool false,.bool false,.bool false,.bool false] 5 rfl) hp
  obtain ⟨H1,a1,a2,a3,a4,a5⟩:=own_sto hnew (hp.trans (List.prefix_append _ _)) 0 [.bool false,.bool false,.bool false,.bool false,.bool false] (by simp)
  obtain ⟨t,H2,e1,e2,e3⟩:=implLineCells_ok hk n line H1
  have hseen:Own 1 H0 H1 (Sl.mk false H.length 0 5) (seenC []):=a3
  obtain ⟨H3,b1,b2⟩:=implSquareFits_l1 (callF PP orc k) k (impl_SquareFits.l0 (callF PP orc k) k fuel) (line:=line) (n:=n) (top:=2 * n) hs (fun c hc=>by rw [n3]; exact lineCells_mem hc) (fun v hv=>⟨(n4 v hv).1,by have:=(n4 v hv).2; omega⟩)
   (by have:=lineCells_len n line; omega) (wr (by omega) (by omega)) (lineCells n line).length 0 k H2 [] (by omega) (by have:=lineCells_len n line; omega) (a2.trans e2) (own_pf hseen e2) e3
  simp only [List.drop_zero,Int.natCast_zero] at b2
  simp only [Nat.zero_add] at a1
  have hlen:=e3.len
  have a1':(H ++ [some (Blk.mk false [.bool false,.bool false,.bool false,.bool false,.bool false])]).sto H.length 0 [.bool false,.bool false,.bool false,.bool false,.bool false]=some H1:=a1
  cases hc:clashL g (lineCells n line) [] with
  | true=>
   refine ⟨H3,?_,b1⟩
   simp only [hc,Zt] at b2
   simp only [impl_SquareFits.l0,q1,decide_true,Zt,a1',e1,Zo,AV.toS,if_true,clashFrom,hc,Bool.true_or,Zy,hlen]
   exact b2
  | false=>
   obtain ⟨H',c1,c2⟩:=ih fuel (line + 1) H3 (by omega) (by omega) b1
   push_cast at c1
   refine ⟨H',?_,c2⟩
   simp only [hc,Zf] at b2
   simp only [impl_SquareFits.l0,q1,decide_true,Zt,a1',e1,Zo,AV.toS,if_true,clashFrom,hc,Bool.false_or,hlen]
   exact b2.trans c1
theorem implSquareFits_ok {k:Nat} (hk:2000001 ≤ k) {H:Hp} {s:Sl} {g:List Int} (n:Int) (hs:Reads .i64 H s g) (hl:g.length ≤ 1048576) :
  ∃ H',callF PP orc k impl_SquareFits.id [.sl 1 s,.int .i64 n] H=some (.bool (squareFits g n),H')∧H <+: H':=by
 obtain ⟨k,rfl⟩:=Zs k (by omega)
 rw [impl_SquareFits.call]
 have h1:=implGridValid_ok (show 2000000 ≤ k by omega) hs hl n
 cases hg:gridOk g n with
 | true=>
  obtain ⟨⟨n1,n2⟩,n3,n4⟩:=(gridOk_iff g n).1 hg
  have hw:IntKind.i64.wrap (2 * n)=2 * n:=wr (by omega) (by omega)
  obtain ⟨H',a1,a2⟩:=implSquareFits_l0 (show 2000000 ≤ k by omega) hs hg (2 * n).toNat k 0 H (by omega) (by omega) (List.prefix_refl _)
  refine ⟨H',?_,a2⟩
  simp only [impl_SquareFits.f,h1,hg,Zo,AV.toB,Zy,Zf,hw,squareFits,Bool.true_and]
  exact a1
 | false=>exact ⟨H,by simp only [impl_SquareFits.f,h1,hg,Zo,AV.toB,Zx,Zt,squareFits,Bool.false_and],List.prefix_refl _⟩
theorem get_new (L:Hp) (x:Option Blk):(L ++ [x])[L.length]?=some x:=by simp
theorem implruleMasks_ok {k:Nat} (hk:2000030 ≤ k) {kind value:Int} {cs ws:Sl} {H:Hp} {own:List Int} (hw:Reads .i64 H ws own) (hol:own.length ≤ 4) (hom:∀ m ∈ own,(0 ≤ m∧m ≤ 30)∧m.tmod 2=0) (hk2:KindLen kind own.length) :
  ∃ t H',callF PP orc k impl_ruleMasks.id [.agg [.int .i64 kind,.sl 1 cs,.int .i64 value],.sl 1 ws] H=some (.sl 1 t,H')∧H <+: H'∧Own 1 H H' t ((ruleMasksV kind value own).map (.int .i64)):=by
 obtain ⟨k,rfl⟩:=Zs k (by omega)
 rw [impl_ruleMasks.call]
 have hwl:=hw.len
 obtain ⟨Ha,hHa⟩:∃ X,H ++ [some (Blk.mk false [.int .i64 kind,.sl 1 cs,.int .i64 value])]=X:=⟨_,rfl⟩
 obtain ⟨Hb,hHb⟩:∃ X,Ha ++ [some (Blk.mk false [.sl 1 ws])]=X:=⟨_,rfl⟩
 obtain ⟨Hc,hHc⟩:∃ X,Hb ++ [some (Blk.mk false ((List.replicate own.length (0:Int)).map (.int .i64)))]=X:=⟨_,rfl⟩
 obtain ⟨Hd,hHd⟩:∃ X,Hc ++ [some (Blk.mk false [.sl 1 Sl.none])]=X:=⟨_,rfl⟩
 have la:Ha.length=H.length + 1:=by rw [← hHa]; simp
 have lb:Hb.length=H.length + 2:=by rw [← hHb]; simp [la]
 have lc:Hc.length=H.length + 3:=by rw [← hHc]; simp [lb]
 have ld:Hd.length=H.length + 4:=by rw [← hHd]; simp [lc]
 have pa:H <+: Ha:=by rw [← hHa]; exact (List.prefix_append _ _)
 have pb:Ha <+: Hb:=by rw [← hHb]; exact (List.prefix_append _ _)
 have pc:Hb <+: Hc:=by rw [← hHc]; exact (List.prefix_append _ _)
 have pd:Hc <+: Hd:=by rw [← hHd]; exact (List.prefix_append _ _)
 have ga:Ha[H.length]?=some (some (Blk.mk false [.int .i64 kind,.sl 1 cs,.int .i64 value])):=by rw [← hHa]; exact get_new _ _
 have gb:Hb[Ha.length]?=some (some (Blk.mk false [.sl 1 ws])):=by rw [← hHb]; exact get_new _ _
 have gc:Hc[Hb.length]?=some (some (Blk.mk false ((List.replicate own.length (0:Int)).map (.int .i64)))):=by rw [← hHc]; exact get_new _ _
 have gd:Hd[Hc.length]?=some (some (Blk.mk false [.sl 1 Sl.none])):=by rw [← hHd]; exact get_new _ _
 obtain ⟨H2,a1,a2,a3,a4⟩:=sto1' gd (.sl 1 (Sl.mk false Hb.length 0 own.length))
 obtain ⟨He,hHe⟩:∃ X,H2 ++ [some (Blk.mk false ((List.replicate own.length (0:Int)).map (.int .i64)))]=X:=⟨_,rfl⟩
 obtain ⟨Hf,hHf⟩:∃ X,He ++ [some (Blk.mk false [.sl 1 Sl.none])]=X:=⟨_,rfl⟩
 have le:He.length=H.length + 5:=by rw [← hHe]; simp; omega
 have lf:Hf.length=H.length + 6:=by rw [← hHf]; simp [le]
 have pe:H2 <+: He:=by rw [← hHe]; exact (List.prefix_append _ _)
 have pf:He <+: Hf:=by rw [← hHf]; exact (List.prefix_append _ _)
 have ge:He[H2.length]?=some (some (Blk.mk false ((List.replicate own.length (0:Int)).map (.int .i64)))):=by rw [← hHe]; exact get_new _ _
 have gf:Hf[He.length]?=some (some (Blk.mk false [.sl 1 Sl.none])):=by rw [← hHf]; exact get_new _ _
 obtain ⟨H4,b1,b2,b3,b4⟩:=sto1' gf (.sl 1 (Sl.mk false H2.length 0 own.length))
 obtain ⟨Hg,hHg⟩:∃ X,H4 ++ [some (Blk.mk false [.nilf])]=X:=⟨_,rfl⟩
 have lg:Hg.length=H.length + 7:=by rw [← hHg]; simp; omega
 have pg:H4 <+: Hg:=by rw [← hHg]; exact (List.prefix_append _ _)
 have gg:Hg[H4.length]?=some (some (Blk.mk false [.nilf])):=by rw [← hHg]; exact get_new _ _
 obtain ⟨H5,c1,c2,c3,c4⟩:=sto1' gg (.fn impl_ruleMasks_1.id [.ptr Ha.length 0,.ptr H.length 0,.ptr He.length 0,.ptr Hc.length 0,.ptr H4.length 0])
 -- what lies where in the end
 have up:∀ {d:Nat} {x:Blk},d ≠ Hc.length→Hd[d]?=some (some x)→H2[d]?=some (some x):=fun h h'=>a3 _ _ h h'
 have up4:∀ {d:Nat} {x:Blk},d ≠ He.length→H2[d]?=some (some x)→H4[d]?=some (some x):=fun h h'=>b3 _ _ h (pf_get (pe.trans pf) h')
 have up5:∀ {d:Nat} {x:Blk},d ≠ H4.length→H4[d]?=some (some x)→H5[d]?=some (some x):=fun h h'=>c3 _ _ h (pf_get pg h')
 have hr5:=up5 (by omega) (up4 (by omega) (up (by omega) (pf_get (pb.trans (pc.trans pd)) ga)))
 have hb2:=up (by omega) (pf_get (pc.trans pd) gb)
 have hb5:=up5 (by omega) (up4 (by omega) hb2)
 have hc5:=up5 (by omega) (up4 (by omega) (up (by omega) (pf_get pd gc)))
 have ho5:=up5 (by omega) (up4 (by omega) a2)
 have hv5:=up5 (by omega) (b3 _ _ (by omega) (pf_get pf ge))
 have hvb5:=up5 (by omega) b2
 have p5:H <+: H5:=by
  have q2:H <+: H2:=a3.pf (by omega) (pa.trans (pb.trans (pc.trans pd))) (by omega)
  have q4:H <+: H4:=b3.pf (by omega) (q2.trans (pe.trans pf)) (by omega)
  exact c3.pf (by omega) (q4.trans pg) (by omega)
 have ht:Try H5 Ha.length H.length He.length Hc.length H4.length kind value cs ws (Sl.mk false H2.length 0 own.length) (Sl.mk false Hb.length 0 own.length):=
  ⟨hb5,hr5,hvb5,ho5,c2,by simp only; omega⟩
 obtain ⟨H',rest',d1,d2,d3,d4,d5,d6⟩:=Try_ok (B:=H) (value:=value) hw hol hom hk2 (vs:=Sl.mk false H2.length 0 own.length) (os:=Sl.mk false Hb.length 0 own.length) (by simp only; omega) own.length k (by omega) H5 [] (List.replicate own.length 0) (List.replicate own.length 0) (by simp) (by simp) p5 ht
  ⟨rfl,rfl,by simp only; omega,by simpa using hv5,by simp⟩ ⟨by simp,fun v hv=>by cases hv⟩ (by simp) (Ms.zeros _) ⟨rfl,rfl,by simp only; omega,hc5,by simp⟩
 have ht':=ht.adv d4
 refine ⟨Sl.mk false Hb.length 0 own.length,H',?_,d3,by simpa [ruleMasksV] using d6⟩
 have l1:ldS 1 Hb Ha.length 0=some ws:=box_sl gb
 have l2:ldS 1 H2 Ha.length 0=some ws:=box_sl hb2
 have l3:ldF H5 H4.length 0=some (impl_ruleMasks_1.id,[.ptr Ha.length 0,.ptr H.length 0,.ptr He.length 0,.ptr Hc.length 0,.ptr H4.length 0]):=by unfold ldF Hp.cell; rw [c2]; simp [AV.toF]
 have l4:=box_sl ht'.o
 simp only [Zm,Int.natCast_zero] at d1
 simp only [impl_ruleMasks.f,hHa,hHb,l1,Zo]
 rw [ip (by omega)]
 simp only [hwl,Zn,flat0s,hHc,hHd,a1,Zo,l2]
 rw [ip (by omega)]
 simp only [hwl,Zn,flat0s,hHe,hHf,b1,Zo,hHg,c1,l3,okTry,List.cons_append,List.nil_append,List.all_cons,List.all_nil,AV.glob,AV.cell,Za,Zt,d1,l4]
theorem kindLen_of {n kind value:Int} {m:Nat} (h:kindOk n kind value m=true):KindLen kind m:=by
 unfold kindOk at h
 unfold KindLen
 split at h
 ·omega
 ·split at h
  ·omega
  ·split at h
   ·simp only [decide_eq_true_eq] at h; omega
   ·split at h
    ·simp only [decide_eq_true_eq] at h; omega
    ·cases h
theorem ownOf_even {n:Int} {masks cells:List Int} (hm:masksOk n masks=true) (hc:∀ c ∈ cells,0 ≤ c∧c < (masks.length:Int)):∀ m ∈ ownOf masks cells,(0 ≤ m∧m ≤ 30)∧m.tmod 2=0:=fun m h=>by
 obtain ⟨c,hc',rfl⟩:=List.mem_map.1 h
 obtain ⟨c0,c1⟩:=hc c hc'
 have:=(masksOk_iff.1 hm).2.1 _ (gv_mem c0 c1)
 unfold maskOk at this
 simp only [Bool.and_eq_true,decide_eq_true_eq,beq_iff_eq] at this
 have ht:=topMask_le n
 omega
/-! ### impl.canHold -/
theorem canHold_l0 {k:Nat} (hk:2000040 ≤ k) {n kind value:Int} {cs xs:Sl} {H0:Hp} {cells g:List Int} (hc:Reads .i64 H0 cs cells) (hx:Reads .i64 H0 xs g) (hr:ruleOk n kind cells value=true) (hg:gridOk g n=true) :
  ∀ (j i fuel:Nat) (H:Hp) (t:Sl),i + j=cells.length→j < fuel→H0 <+: H→Own 1 H0 H t ((ownOf (openOf n g) (cells.take i)).map (.int .i64)) →
   ∃ H',impl_canHold.l0 (callF PP orc k) k fuel xs n t cs cells.length i kind cs value H=some (.bool (canHoldV n g (kind,cells,value)),H')∧H0 <+: H':=by
 obtain ⟨hn,g2,g3⟩:=(gridOk_iff g n).1 hg
 obtain ⟨c1,c2,c3,c4⟩:=ruleOk_cells hr
 have hcl:=hc.len
 have hxl:=hx.len
 have hop:(openOf n g).length=g.length:=by simp [openOf]
 intro j
 induction j with
 | zero=>
  intro i fuel H t hi hf hp ho
  obtain ⟨fuel,rfl⟩:=Zs fuel (by omega)
  rw [List.take_of_length_le (by omega)] at ho
  have hkl:KindLen kind (ownOf (openOf n g) cells).length:=by
   simp only [ownOf,List.length_map]
   unfold ruleOk at hr; rw [Bool.and_eq_true] at hr; exact kindLen_of hr.2
  obtain ⟨u,H1,a1,a2,a3⟩:=implruleMasks_ok (show 2000030 ≤ k by omega) (kind:=kind) (value:=value) (cs:=cs) (own_reads ho) (by simp [ownOf]; omega) (ownOf_even (openOf_ok hg) fun c h=>by have:=c1 c h; omega) hkl
  refine ⟨H1,?_,hp.trans a2⟩
  have hl:(ruleMasksV kind value (ownOf (openOf n g) cells)).length=cells.length:=by
   unfold ruleMasksV
   rw [(ways_ok _ _ [] _ ⟨by simp,fun v hv=>by cases hv⟩ (by simp [ownOf]; omega) (Ms.zeros _)).2]
   simp [ownOf]
  have hul:=(own_reads a3).len
  have hd:(ruleMasksV kind value (ownOf (openOf n g) cells)).getD 0 0=(ruleMasksV kind value (ownOf (openOf n g) cells)).headD 0:=by
   cases ruleMasksV kind value (ownOf (openOf n g) cells) <;> rfl
  simp (disch:=omega) only [impl_canHold.l0,impl_canHold.j2,dt,df,bt,bf,nt,nf,Za,Zy,Zx,Zt,Zf,Zn,Zz,Zi,Zo,wr,AV.toB,AV.toI,AV.toS,if_true,a1,rdn (own_reads a3),hd]
  rfl
 | succ j ih=>
  intro i fuel H t hi hf hp ho
  obtain ⟨fuel,rfl⟩:=Zs fuel (by omega)
  have hi2:i < cells.length:=by omega
  have hcc:=c1 _ (mem_getD hi2)
  have hlt:(cells.getD i 0).toNat < g.length:=by omega
  obtain ⟨v0,v1⟩:=g3 _ (mem_getD hlt)
  have htl:t.len=i:=by have:=ho.len; simp [ownOf] at this; omega
  have hval:gv (openOf n g) (cells.getD i 0)=if g.getD (cells.getD i 0).toNat 0 > 0 then pw (g.getD (cells.getD i 0).toNat 0) else topMask n:=by
   unfold gv openOf
   rw [List.getD_eq_getElem?_getD,List.getElem?_map,List.getElem?_eq_getElem hlt,List.getD_eq_getElem?_getD (l:=g),List.getElem?_eq_getElem hlt]; rfl
  have htk:ownOf (openOf n g) (cells.take (i + 1))=ownOf (openOf n g) (cells.take i) ++ [gv (openOf n g) (cells.getD i 0)]:=by
   rw [List.take_succ_eq_append_getElem hi2]; unfold ownOf
   rw [List.map_append,List.getD_eq_getElem?_getD,List.getElem?_eq_getElem hi2]; rfl
  obtain ⟨H1,a1,a2,a3,a4,a5⟩:=own_app1 ho hp (gv (openOf n g) (cells.getD i 0)) (by omega)
  rw [← htk] at a3
  obtain ⟨H',b1,b2⟩:=ih (i + 1) fuel H1 _ (by omega) (by omega) a2 a3
  push_cast at b1
  refine ⟨H',?_,b2⟩
  rw [hval] at a1
  by_cases c:g.getD (cells.getD i 0).toNat 0 > 0
  ·rw [ip c] at a1
   simp (disch:=omega) only [impl_canHold.l0,impl_canHold.j1,dt,df,bt,bf,nt,nf,Za,Zy,Zx,Zt,Zf,Zn,Zz,Zi,Zo,wr,AV.toB,AV.toI,AV.toS,if_true,rdn (pf_reads hp hc),rdn (pf_reads hp hx),iN,m_shl v0,a1,b1]
  ·rw [iN c] at a1
   simp (disch:=omega) only [impl_canHold.l0,impl_canHold.j1,dt,df,bt,bf,nt,nf,Za,Zy,Zx,Zt,Zf,Zn,Zz,Zi,Zo,wr,AV.toB,AV.toI,AV.toS,if_true,rdn (pf_reads hp hc),rdn (pf_reads hp hx),allValues_ok (show 1 ≤ k by omega) hn,a1,b1]
theorem canHold_ok {k:Nat} (hk:2000041 ≤ k) {n kind value:Int} {cs xs:Sl} {H:Hp} {cells g:List Int} (hc:Reads .i64 H cs cells) (hx:Reads .i64 H xs g) (hr:ruleOk n kind cells value=true) (hg:gridOk g n=true) :
  ∃ H',callF PP orc k impl_canHold.id [.agg [.int .i64 kind,.sl 1 cs,.int .i64 value],.sl 1 xs,.int .i64 n] H=some (.bool (canHoldV n g (kind,cells,value)),H')∧H <+: H':=by
 obtain ⟨k,rfl⟩:=Zs k (by omega)
 rw [impl_canHold.call]
 have hcl:=hc.len
 have:=(ruleOk_cells hr).2.1
 obtain ⟨H',a1,a2⟩:=canHold_l0 (show 2000040 ≤ k by omega) hc hx hr hg cells.length 0 k (H ++ [some (Blk.mk false [])]) (Sl.mk false H.length 0 0) (by omega) (by omega) (List.prefix_append _ _) (own_new 1 H [] 0 rfl)
 refine ⟨H',?_,a2⟩
 simp only [Int.natCast_zero] at a1
 simp only [impl_canHold.f,hcl,a1]
/-! ### impl.PuzzleFits, impl.PuzzleSolved -/
theorem implFits_l6 {k:Nat} (hk:2000041 ≤ k) {H0:Hp} {n:Int} {gs s xs:Sl} {given g:List Int} {rs:List R} (hz:PuzAt H0 n gs s given rs) (hro:∀ r ∈ rs,R.ok n r=true) (hx:Reads .i64 H0 xs g) (hg:gridOk g n=true) :
  ∀ (j i fuel:Nat) (H:Hp),i + j=rs.length→j < fuel→H0 <+: H→∃ H',impl_PuzzleFits.l6 (callF PP orc k) k fuel xs s rs.length i n gs s H=some (.bool (((rs.drop i).map R.val).all (canHoldV n g)),H')∧H0 <+: H':=by
 have hlen:=hz.rr.len
 have hrl:=hz.rl
 intro j
 induction j with
 | zero=>
  intro i fuel H hi hf hp
  obtain ⟨fuel,rfl⟩:=Zs fuel (by omega)
  refine ⟨H,?_,hp⟩
  rw [List.drop_eq_nil_of_le (by omega),List.map_nil,List.all_nil]
  simp (disch:=omega) only [impl_PuzzleFits.l6,dt,df,bt,bf,nt,nf,Za,Zy,Zx,Zt,Zf,Zn,Zz,Zi,Zo,wr,AV.toB,AV.toI,AV.toS,if_true]
 | succ j ih=>
  intro i fuel H hi hf hp
  obtain ⟨fuel,rfl⟩:=Zs fuel (by omega)
  have hi2:i < rs.length:=by omega
  obtain ⟨l0,l1,l2⟩:=rules_at1 (pf_readsR hp hz.rr) i hi2
  obtain ⟨H1,a1,a2⟩:=canHold_ok hk (pf_reads hp (hz.rr.cs i hi2)) (pf_reads hp hx) (hro _ (List.getElem_mem hi2)) hg
  obtain ⟨H',b1,b2⟩:=ih (i + 1) fuel H1 (by omega) (by omega) (hp.trans a2)
  push_cast at b1
  rw [List.drop_eq_getElem_cons hi2,List.map_cons,List.all_cons]
  have e:canHoldV n g rs[i].val=canHoldV n g (rs[i].kind,rs[i].cells,rs[i].value):=rfl
  rw [e]
  cases c:canHoldV n g (rs[i].kind,rs[i].cells,rs[i].value) with
  | true=>
   rw [c] at a1
   refine ⟨H',?_,b2⟩
   simp (disch:=omega) only [impl_PuzzleFits.l6,dt,df,bt,bf,nt,nf,Za,Zy,Zx,Zt,Zf,Zn,Zz,Zi,Zo,wr,AV.toB,AV.toI,AV.toS,if_true,l0,l1,l2,a1,b1,Bool.true_and]
  | false=>
   rw [c] at a1
   refine ⟨H1,?_,hp.trans a2⟩
   simp (disch:=omega) only [impl_PuzzleFits.l6,dt,df,bt,bf,nt,nf,Za,Zy,Zx,Zt,Zf,Zn,Zz,Zi,Zo,wr,AV.toB,AV.toI,AV.toS,if_true,l0,l1,l2,a1,Bool.false_and]
theorem implFits_l2 {k:Nat} (hk:2000041 ≤ k) {H:Hp} {n:Int} {gs s xs:Sl} {given g:List Int} {rs:List R} (hz:PuzAt H n gs s given rs) (hro:∀ r ∈ rs,R.ok n r=true) (hx:Reads .i64 H xs g) (hg:gridOk g n=true) (hl:given.length=g.length) :
  ∀ (j i fuel:Nat),i + j=g.length→j < fuel→∃ H',impl_PuzzleFits.l2 (callF PP orc k) k fuel xs xs g.length i n gs s H=some (.bool (compatFrom given g i j && (rs.map R.val).all (canHoldV n g)),H')∧H <+: H':=by
 have hgl:=hz.rg.len
 have hxl:=hx.len
 have hrl:=hz.rr.len
 have h16:=gridOk_len hg
 intro j
 induction j with
 | zero=>
  intro i fuel hi hf
  obtain ⟨fuel,rfl⟩:=Zs fuel (by omega)
  obtain ⟨H1,a1,a2⟩:=implFits_l6 hk hz hro hx hg rs.length 0 k H (by omega) (by have:=hz.rl; omega) (List.prefix_refl _)
  simp only [Int.natCast_zero,List.drop_zero] at a1
  refine ⟨H1,?_,a2⟩
  simp (disch:=omega) only [impl_PuzzleFits.l2,impl_PuzzleFits.j4,dt,df,bt,bf,nt,nf,Za,Zy,Zx,Zt,Zf,Zn,Zz,Zi,Zo,wr,AV.toB,AV.toI,AV.toS,if_true,hrl,a1,compatFrom,Bool.true_and]
 | succ j ih=>
  intro i fuel hi hf
  obtain ⟨fuel,rfl⟩:=Zs fuel (by omega)
  obtain ⟨H',b1,b2⟩:=ih (i + 1) fuel (by omega) (by omega)
  push_cast at b1
  rw [compatFrom]
  by_cases c2:g.getD i 0 > 0
  ·by_cases c1:given.getD i 0 > 0
   ·by_cases c3:g.getD i 0=given.getD i 0
    ·refine ⟨H',?_,b2⟩
     simp (disch:=omega) only [impl_PuzzleFits.l2,impl_PuzzleFits.j3,impl_PuzzleFits.j5,dt,df,bt,bf,nt,nf,Za,Zy,Zx,Zt,Zf,Zn,Zz,Zi,Zo,wr,AV.toB,AV.toI,AV.toS,if_true,rdn hz.rg,rdn hx,b1,Bool.and_false,Bool.true_and]
    ·refine ⟨H,?_,(List.prefix_refl _)⟩
     simp (disch:=omega) only [impl_PuzzleFits.l2,impl_PuzzleFits.j3,impl_PuzzleFits.j5,dt,df,bt,bf,nt,nf,Za,Zy,Zx,Zt,Zf,Zn,Zz,Zi,Zo,wr,AV.toB,AV.toI,AV.toS,if_true,rdn hz.rg,rdn hx,Bool.and_true,Bool.false_and]
   ·refine ⟨H',?_,b2⟩
    simp (disch:=omega) only [impl_PuzzleFits.l2,impl_PuzzleFits.j3,impl_PuzzleFits.j5,dt,df,bt,bf,nt,nf,Za,Zy,Zx,Zt,Zf,Zn,Zz,Zi,Zo,wr,AV.toB,AV.toI,AV.toS,if_true,rdn hz.rg,rdn hx,b1,Bool.and_false,Bool.false_and,Bool.true_and]
  ·refine ⟨H',?_,b2⟩
   simp (disch:=omega) only [impl_PuzzleFits.l2,impl_PuzzleFits.j3,impl_PuzzleFits.j5,dt,df,bt,bf,nt,nf,Za,Zy,Zx,Zt,Zf,Zn,Zz,Zi,Zo,wr,AV.toB,AV.toI,AV.toS,if_true,rdn hz.rg,rdn hx,b1,Bool.and_false,Bool.false_and,Bool.true_and]
theorem implPuzzleFits_ok {k:Nat} (hk:2000042 ≤ k) {H:Hp} {n:Int} {gs s xs:Sl} {given g:List Int} {rs:List R} (hz:PuzAt H n gs s given rs) (hx:Reads .i64 H xs g) (hl:g.length ≤ 1000) :
  ∃ H',callF PP orc k impl_PuzzleFits.id [.agg [.int .i64 n,.sl 1 gs,.sl 3 s],.sl 1 xs] H=some (.bool (puzzleFitsV n given (rs.map R.val) g),H')∧H <+: H':=by
 obtain ⟨k,rfl⟩:=Zs k (by omega)
 rw [impl_PuzzleFits.call]
 have h1:=implPuzzleValid_ok (show 2000003 ≤ k by omega) hz.n4 hz.rg hz.gl hz.rr hz.rl hz.rc
 rw [puzzle_map] at h1
 unfold puzzleFitsV
 cases c1:puzzleV n given (rs.map R.val) with
 | false=>
  rw [c1] at h1
  exact ⟨H,by simp only [impl_PuzzleFits.f,impl_PuzzleFits.j0,dt,df,bt,bf,nt,nf,Za,Zy,Zx,Zt,Zf,Zn,Zz,Zi,Zo,wr,AV.toB,AV.toI,AV.toS,if_true,h1,Bool.false_and],(List.prefix_refl _)⟩
 | true=>
  rw [c1] at h1
  obtain ⟨p1,p2,p3⟩:=puzzleV_iff c1
  obtain ⟨H1,a1,a2⟩:=implSquareFits_ok (show 2000001 ≤ k by omega) n hx (by omega)
  unfold squareFits at a1
  cases c2:gridOk g n with
  | false=>
   rw [c2] at a1
   exact ⟨H1,by simp only [impl_PuzzleFits.f,impl_PuzzleFits.j0,dt,df,bt,bf,nt,nf,Za,Zy,Zx,Zt,Zf,Zn,Zz,Zi,Zo,wr,AV.toB,AV.toI,AV.toS,if_true,h1,a1,Bool.false_and,Bool.true_and],a2⟩
  | true=>
   rw [c2,Bool.true_and] at a1
   cases c3:clash g n with
   | true=>
    rw [c3] at a1
    refine ⟨H1,?_,a2⟩
    unfold fitsV
    simp only [impl_PuzzleFits.f,impl_PuzzleFits.j0,dt,df,bt,bf,nt,nf,Za,Zy,Zx,Zt,Zf,Zn,Zz,Zi,Zo,wr,AV.toB,AV.toI,AV.toS,if_true,h1,a1,Bool.true_and,c3,Bool.and_false]
   | false=>
    rw [c3] at a1
    obtain ⟨H2,b1,b2⟩:=implFits_l2 (show 2000041 ≤ k by omega) (hz.pf a2) p3 (pf_reads a2 hx) c2 (grid_len_eq p1 c2) g.length 0 k (by omega) (by omega)
    have hxl:=hx.len
    refine ⟨H2,?_,a2.trans b2⟩
    simp only [Int.natCast_zero] at b1
    unfold fitsV compatB
    simp only [impl_PuzzleFits.f,impl_PuzzleFits.j0,impl_PuzzleFits.j1,dt,df,bt,bf,nt,nf,Za,Zy,Zx,Zt,Zf,Zn,Zz,Zi,Zo,wr,AV.toB,AV.toI,AV.toS,if_true,h1,a1,hxl,b1,Bool.true_and,c3,Bool.and_true]
theorem wdivm {a u:Nat} (N:Nat) (hN:2 ≤ N∧N ≤ 4) (ha:a < N * N) (hu:u < N):IntKind.i64.wrap (IntKind.i64.wrap (IntKind.i64.wrap ((a:Int).tdiv (N:Int)) * (N:Int)) + (u:Int))=((a / N * N + u:Nat):Int)∧IntKind.i64.wrap (IntKind.i64.wrap ((u:Int) * (N:Int)) + (a:Int).tmod (N:Int))=((u * N + a % N:Nat):Int)∧a / N * N + u < N * N∧u * N + a % N < N * N:=by
 have e1:((a:Int)).tdiv (N:Int)=((a / N:Nat):Int):=rfl
 have e2:((a:Int)).tmod (N:Int)=((a % N:Nat):Int):=rfl
 rw [e1,e2]
 have:N=2 ∨ N=3 ∨ N=4:=by omega
 rcases this with rfl | rfl | rfl
 all_goals
  refine ⟨?_,?_,by omega,by omega⟩
  ·rw [wr (n:=((a / _:Nat):Int)) (by omega) (by omega),wr (n:=((a / _:Nat):Int) * _) (by omega) (by omega),wr (by omega) (by omega)]; omega
  ·rw [wr (n:=(u:Int) * _) (by omega) (by omega),wr (by omega) (by omega)]; omega
theorem cellFits_l5 {k:Nat} (hk:2000041 ≤ k) {H0:Hp} {n:Int} {gs s xs:Sl} {given g:List Int} {rs:List R} (hz:PuzAt H0 n gs s given rs) (hro:∀ r ∈ rs,R.ok n r=true) (hx:Reads .i64 H0 xs g) (hg:gridOk g n=true) {at':Nat} :
  ∀ (j i fuel:Nat) (H:Hp),i + j=rs.length→j < fuel→H0 <+: H→∃ H',impl_cellFits.l5 (callF PP orc k) k fuel xs at' n s rs.length i H=some (.bool (((rs.drop i).map R.val).all fun r=>!r.2.1.contains (at':Int) || canHoldV n g r),H')∧H0 <+: H':=by
 have hlen:=hz.rr.len
 have hrl:=hz.rl
 intro j
 induction j with
 | zero=>
  intro i fuel H hi hf hp
  obtain ⟨fuel,rfl⟩:=Zs fuel (by omega)
  refine ⟨H,?_,hp⟩
  rw [List.drop_eq_nil_of_le (by omega),List.map_nil,List.all_nil]
  simp (disch:=omega) only [impl_cellFits.l5,dt,df,bt,bf,nt,nf,Za,Zy,Zx,Zt,Zf,Zn,Zz,Zi,Zo,wr,AV.toB,AV.toI,AV.toS,if_true]
 | succ j ih=>
  intro i fuel H hi hf hp
  obtain ⟨fuel,rfl⟩:=Zs fuel (by omega)
  have hi2:i < rs.length:=by omega
  obtain ⟨l0,l1,l2⟩:=rules_at1 (pf_readsR hp hz.rr) i hi2
  have hmem:=List.getElem_mem hi2
  have hcs:=pf_reads hp (hz.rr.cs i hi2)
  have hct:=Contains_ok (show 2000001 ≤ k by omega) (at':Int) hcs (by have:=hz.rc _ hmem; omega)
  rw [List.drop_eq_getElem_cons hi2,List.map_cons,List.all_cons]
  have e2:rs[i].val.2.1=rs[i].cells:=rfl
  rw [e2]
  cases c1:rs[i].cells.contains (at':Int) with
  | false=>
   rw [c1] at hct
   obtain ⟨H',b1,b2⟩:=ih (i + 1) fuel H (by omega) (by omega) hp
   push_cast at b1
   refine ⟨H',?_,b2⟩
   simp (disch:=omega) only [impl_cellFits.l5,impl_cellFits.j7,impl_cellFits.j8,dt,df,bt,bf,nt,nf,Za,Zy,Zx,Zt,Zf,Zn,Zz,Zi,Zo,wr,AV.toB,AV.toI,AV.toS,if_true,l0,l1,l2,hct,b1,Bool.true_or,Bool.true_and]
  | true=>
   rw [c1] at hct
   obtain ⟨H1,a1,a2⟩:=canHold_ok hk hcs (pf_reads hp hx) (hro _ hmem) hg
   have e:canHoldV n g (rs[i].kind,rs[i].cells,rs[i].value)=canHoldV n g rs[i].val:=rfl
   rw [e] at a1
   cases c:canHoldV n g rs[i].val with
   | true=>
    rw [c] at a1
    obtain ⟨H',b1,b2⟩:=ih (i + 1) fuel H1 (by omega) (by omega) (hp.trans a2)
    push_cast at b1
    refine ⟨H',?_,b2⟩
    simp (disch:=omega) only [impl_cellFits.l5,impl_cellFits.j7,impl_cellFits.j8,dt,df,bt,bf,nt,nf,Za,Zy,Zx,Zt,Zf,Zn,Zz,Zi,Zo,wr,AV.toB,AV.toI,AV.toS,if_true,l0,l1,l2,hct,a1,b1,Bool.or_true,Bool.true_and]
   | false=>
    rw [c] at a1
    refine ⟨H1,?_,hp.trans a2⟩
    simp (disch:=omega) only [impl_cellFits.l5,impl_cellFits.j7,impl_cellFits.j8,dt,df,bt,bf,nt,nf,Za,Zy,Zx,Zt,Zf,Zn,Zz,Zi,Zo,wr,AV.toB,AV.toI,AV.toS,if_true,l0,l1,l2,hct,a1,Bool.or_false,Bool.false_and]
theorem cellFits_l1 (rec:Rec) (k:Nat) (L0:Sl→Int→Int→Int→Int→Int→Sl→Sl→Hp→An) {n y0 x15:Int} {gs s xs cs:Sl} {H:Hp} {g cells:List Int} {at' q:Nat} (hc:Reads .i64 H cs cells) (hx:Reads .i64 H xs g) (ha:at' < g.length) (hq:q < 1000) (hcl:cells.length ≤ 10) (hin:∀ c ∈ cells,0 ≤ c∧c.toNat < g.length∧c < (g.length:Int)) :
  ∀ (j i fuel:Nat),i + j=cells.length→j < fuel→impl_cellFits.l1 rec k L0 fuel xs at' n x15 q cs cells.length i y0 gs s H =
   bif (cells.drop i).any (fun c=>decide (c ≠ (at':Int)) && decide (g.getD c.toNat 0=g.getD at' 0)) then some (.bool false,H) else L0 xs at' n x15 ((q:Int) + 1) y0 gs s H:=by
 have hcs:=hc.len
 have hxl:=hx.len
 have eqd:∀ a b:Int,(a == b)=decide (a=b):=fun a b=>by rw [Bool.eq_iff_iff]; simp
 intro j
 induction j with
 | zero=>
  intro i fuel hi hf
  obtain ⟨fuel,rfl⟩:=Zs fuel (by omega)
  rw [List.drop_eq_nil_of_le (by omega)]
  simp (disch:=omega) only [impl_cellFits.l1,impl_cellFits.j4,df,Zf,wr,List.any_nil]
 | succ j ih=>
  intro i fuel hi hf
  obtain ⟨fuel,rfl⟩:=Zs fuel (by omega)
  have hi2:i < cells.length:=by omega
  obtain ⟨c0,c1,c2⟩:=hin _ (mem_getD hi2)
  have hd:cells.drop i=cells.getD i 0 :: cells.drop (i + 1):=by
   rw [List.drop_eq_getElem_cons hi2,List.getD_eq_getElem?_getD,List.getElem?_eq_getElem hi2]; rfl
  have h5:=ih (i + 1) fuel (by omega) (by omega)
  push_cast at h5
  rw [hd,List.any_cons]
  by_cases cA:cells.getD i 0=(at':Int)
  ·rw [df (show ¬ cells.getD i 0 ≠ (at':Int) from fun h=>h cA),Bool.false_and,Bool.false_or]
   simp (disch:=omega) only [impl_cellFits.l1,impl_cellFits.j3,impl_cellFits.j6,dt,nf,Za,Zt,Zf,Zn,Zo,wr,rdn hc,h5]
  ·rw [dt cA,Bool.true_and]
   by_cases eA:g.getD (cells.getD i 0).toNat 0=g.getD at' 0
   ·rw [dt eA]
    simp (disch:=omega) only [impl_cellFits.l1,impl_cellFits.j3,impl_cellFits.j6,dt,nt,bt,Za,Zt,Zf,Zn,Zo,wr,rdn hc,rdn hx,Bool.true_or]
   ·rw [df eA]
    simp (disch:=omega) only [impl_cellFits.l1,impl_cellFits.j3,impl_cellFits.j6,dt,nt,bf,Za,Zt,Zf,Zn,Zo,wr,rdn hc,rdn hx,Bool.false_or,h5]
theorem cellFits_l0 {k:Nat} (hk:2000041 ≤ k) {H0:Hp} {gs s xs:Sl} {given g:List Int} {rs:List R} {N:Nat} (hz:PuzAt H0 (N:Int) gs s given rs) (hro:∀ r ∈ rs,R.ok (N:Int) r=true) (hx:Reads .i64 H0 xs g) (hg:gridOk g (N:Int)=true) {at':Nat} (ha:at' < g.length) :
  ∀ (j q fuel:Nat) (H:Hp),q + j=N→j < fuel→H0 <+: H→∃ H',impl_cellFits.l0 (callF PP orc k) k fuel xs at' N N q N gs s H=some (.bool (!cellFrom N g at' q j && (rs.map R.val).all fun r=>!r.2.1.contains (at':Int) || canHoldV N g r),H')∧H0 <+: H':=by
 have hn:=hz.n4
 have hN:2 ≤ N∧N ≤ 4:=by omega
 have hgl:=((gridOk_iff g _).1 hg).2.1
 have hgl':g.length=N * N:=by
  have:N=2 ∨ N=3 ∨ N=4:=by omega
  rcases this with rfl | rfl | rfl <;> omega
 have hxl:=hx.len
 have hsl:=hz.rr.len
 have hrl:=hz.rl
 intro j
 induction j with
 | zero=>
  intro q fuel H hq hf hp
  obtain ⟨fuel,rfl⟩:=Zs fuel (by omega)
  obtain ⟨H',b1,b2⟩:=cellFits_l5 hk hz hro hx hg (at':=at') rs.length 0 k H (by omega) (by omega) hp
  simp only [Int.natCast_zero,List.drop_zero] at b1
  refine ⟨H',?_,b2⟩
  simp (disch:=omega) only [impl_cellFits.l0,impl_cellFits.j2,dt,df,bt,bf,nt,nf,Za,Zy,Zx,Zt,Zf,Zn,Zz,Zi,Zo,wr,AV.toB,AV.toI,AV.toS,if_true,hsl,b1,cellFrom,Bool.true_and]
 | succ j ih=>
  intro q fuel H hq hf hp
  obtain ⟨fuel,rfl⟩:=Zs fuel (by omega)
  obtain ⟨w1,w2,w3,w4⟩:=wdivm N hN (a:=at') (u:=q) (by omega) (by omega)
  have q1:H <+: H ++ [some (Blk.mk false (([((at' / N * N + q:Nat):Int),((q * N + at' % N:Nat):Int)]:List Int).map (.int .i64)))]:=List.prefix_append _ _
  have hnew:=own_reads (own_new 1 H (([((at' / N * N + q:Nat):Int),((q * N + at' % N:Nat):Int)]:List Int).map (.int .i64)) 2 rfl)
  have hx1:=pf_reads (hp.trans q1) hx
  obtain ⟨H',b1,b2⟩:=ih (q + 1) fuel _ (by omega) (by omega) (hp.trans q1)
  rw [show ((q + 1:Nat):Int)=(q:Int) + 1 from rfl] at b1
  rw [cellFrom]
  generalize hA:at' / N * N + q=A at *
  generalize hB:q * N + at' % N=B at *
  have h1:=cellFits_l1 (callF PP orc k) k (impl_cellFits.l0 (callF PP orc k) k fuel) (n:=(N:Int)) (y0:=(N:Int)) (x15:=(N:Int)) (gs:=gs) (s:=s) (at':=at') (q:=q) hnew hx1 ha (by omega) (by simp) (fun c hc=>by
   simp at hc
   rcases hc with rfl | rfl
   ·exact ⟨by omega,by rw [Int.toNat_natCast]; omega,by omega⟩
   ·exact ⟨by omega,by rw [Int.toNat_natCast]; omega,by omega⟩) 2 0 k (by simp) (by omega)
  have e:(([(A:Int),(B:Int)]:List Int).drop 0).any (fun c=>decide (c ≠ (at':Int)) && decide (g.getD c.toNat 0=g.getD at' 0))=((decide (A ≠ at') && decide (g.getD A 0=g.getD at' 0)) || (decide (B ≠ at') && decide (g.getD B 0=g.getD at' 0))):=by
   have eA:decide ((A:Int) ≠ (at':Int))=decide (A ≠ at'):=decide_eq_decide.2 (by omega)
   have eB:decide ((B:Int) ≠ (at':Int))=decide (B ≠ at'):=decide_eq_decide.2 (by omega)
   simp only [List.drop_zero,List.any_cons,List.any_nil,Zn,Bool.or_false,eA,eB]
  rw [e] at h1
  simp only [List.map_cons,List.map_nil,Zl,Zm,Int.natCast_zero] at h1 b1
  have z1:((N:Int)=0)=False:=by simp; omega
  cases hc:(decide (A ≠ at') && decide (g.getD A 0=g.getD at' 0)) || (decide (B ≠ at') && decide (g.getD B 0=g.getD at' 0)) with
  | true=>
   rw [hc] at h1
   refine ⟨_,?_,hp.trans q1⟩
   rw [← Bool.or_assoc,hc]
   simp only [impl_cellFits.l0,dt (show (q:Int) < (N:Int) by omega),Zt,z1,if_false,w1,w2,hA,hB,h1,List.map_cons,List.map_nil,Bool.true_or,Zy,Bool.false_and]
  | false=>
   rw [hc] at h1
   refine ⟨H',?_,b2⟩
   rw [← Bool.or_assoc,hc]
   simp only [impl_cellFits.l0,dt (show (q:Int) < (N:Int) by omega),Zt,Zf,z1,if_false,w1,w2,hA,hB,h1,Bool.false_or,b1]
theorem cellFits_ok {k:Nat} (hk:2000042 ≤ k) {H:Hp} {n:Int} {gs s xs:Sl} {given g:List Int} {rs:List R} (hz:PuzAt H n gs s given rs) (hro:∀ r ∈ rs,R.ok n r=true) (hx:Reads .i64 H xs g) (hg:gridOk g n=true) {at':Nat} (ha:at' < g.length) :
  ∃ H',callF PP orc k impl_cellFits.id [.agg [.int .i64 n,.sl 1 gs,.sl 3 s],.sl 1 xs,.int .i64 (at':Int)] H=some (.bool (cellFitsV n (rs.map R.val) g at'),H')∧H <+: H':=by
 obtain ⟨k,rfl⟩:=Zs k (by omega)
 rw [impl_cellFits.call]
 have hn:=hz.n4
 obtain ⟨N,rfl⟩:=Int.eq_ofNat_of_zero_le (show 0 ≤ n by omega)
 obtain ⟨H',a1,a2⟩:=cellFits_l0 (show 2000041 ≤ k by omega) hz hro hx hg ha N 0 k H (by omega) (by omega) (List.prefix_refl _)
 exact ⟨H',a1,a2⟩
def runL {σ:Type} (step:σ→List Int→σ × Bool):σ→List (List Int)→σ × Bool
 | st,[]=>(st,true)
 | st,x :: L=>if (step st x).2=true then runL step (step st x).1 L else ((step st x).1,false)
theorem runL_app {σ:Type} (step:σ→List Int→σ × Bool):∀ (A L:List (List Int)) (st:σ),runL step st (A ++ L)=if (runL step st A).2=true then runL step (runL step st A).1 L else runL step st A
 | [],L,st=>by simp [runL]
 | x :: A,L,st=>by
  rw [List.cons_append,runL,runL]
  by_cases h:(step st x).2=true
  ·rw [if_pos h,if_pos h,runL_app step A L]
  ·rw [if_neg h,if_neg h]; simp
theorem runL_one {σ:Type} (step:σ→List Int→σ × Bool) (st:σ) (x:List Int):runL step st [x]=step st x:=by
 rw [runL]
 by_cases h:(step st x).2=true
 ·rw [if_pos h,runL,← h]
 ·rw [if_neg h]
  rw [Bool.not_eq_true] at h
  rw [← h]
structure Tell (B:Hp) (f:FuncId) (caps:List AV) (b d:Nat) {σ:Type} (step:σ→List Int→σ × Bool) (T:Nat→σ × Bool→Hp→Prop) (K:Nat):Prop where
 ok:okF PP f=true
 gl:caps.all AV.glob=true
 bB:B.length ≤ b
 bd:b ≠ d
 pf:∀ c st H H',T c st H→H <+: H'→T c st H'
 wr:∀ c st H H',T c st H→But d H H'→H'.length=H.length→T c st H'
 go:∀ k,K ≤ k→∀ c st H t g,T c (st,true) H→B <+: H→Reads .i64 H t g→g.length ≤ 16→t.blk=d→t.nil=false→c ≠ d→B.length ≤ c→∃ H' c',callF PP orc k f ([.sl 1 t] ++ caps) H=some (.bool (step st g).2,H')∧T c' (step st g) H'∧Adv2 b c H H'∧(c'=c ∨ H.length ≤ c')
structure Adv3 (d b c:Nat) (H H':Hp):Prop where
 but:∀ (e:Nat) (x:Option Blk),e ≠ d→e ≠ b→e ≠ c→H[e]?=some x→H'[e]?=some x
 le:H.length ≤ H'.length
theorem Adv3.refl (d b c:Nat) (H:Hp):Adv3 d b c H H:=⟨fun _ _ _ _ _ h=>h,Nat.le_refl _⟩
theorem Adv3.trans {d b c c':Nat} {H H1 H2:Hp} (h:Adv3 d b c H H1) (h':Adv3 d b c' H1 H2) (hc:c'=c ∨ H.length ≤ c'):Adv3 d b c H H2:=
 ⟨fun e x h1 h2 h3 hx=>by
  have hd:=(List.getElem?_eq_some_iff.1 hx).1
  exact h'.but e x h1 h2 (by omega) (h.but e x h1 h2 h3 hx),Nat.le_trans h.le h'.le⟩
theorem pf_adv3 {d b c:Nat} {H H':Hp} (g:H <+: H'):Adv3 d b c H H':=⟨fun e x _ _ _ hx=>pf_get g hx,g.length_le⟩
theorem adv_adv3 {d b c:Nat} {H H':Hp} (g:Adv d H H'):Adv3 d b c H H':=⟨fun e x h1 _ _ hx=>g.but e x h1 hx,g.le⟩
theorem adv2_adv3 {d b c:Nat} {H H':Hp} (g:Adv2 b c H H'):Adv3 d b c H H':=⟨fun e x _ h2 h3 hx=>g.but e x h2 h3 hx,g.le⟩
theorem Adv3.pf {d b c:Nat} {H H' B:Hp} (h:Adv3 d b c H H') (hd:B.length ≤ d) (hb:B.length ≤ b) (hc:B.length ≤ c) (g:B <+: H):B <+: H':=by
 have hl0:=g.length_le
 have hle:=h.le
 rw [List.prefix_iff_eq_take]
 apply List.ext_getElem?
 intro i
 by_cases hi:i < B.length
 ·rw [List.getElem?_take,if_pos hi]
  have e:=List.getElem?_eq_getElem hi
  rw [e,h.but i _ (by omega) (by omega) (by omega) (pf_get g e)]
 ·rw [List.getElem?_eq_none (by omega),List.getElem?_eq_none (by simp; omega)]
structure Bx (H:Hp) (gb tb yb nb pb:Nat) (n:Int) (gs ps ss:Sl) (f:FuncId) (caps:List AV):Prop where
 bg:H[gb]?=some (some ⟨false,[.sl 1 gs]⟩)
 bt:H[tb]?=some (some ⟨false,[.fn f caps]⟩)
 bo:H[yb]?=some (some ⟨false,[.fn impl_solutions_1.id [.ptr gb 0,.ptr tb 0,.ptr yb 0,.ptr nb 0,.ptr pb 0]]⟩)
 bn:H[nb]?=some (some ⟨false,[.int .i64 n]⟩)
 bp:H[pb]?=some (some ⟨false,[.int .i64 n,.sl 1 ps,.sl 3 ss]⟩)
def Five (x gb tb yb nb pb:Nat):Prop:=gb ≠ x∧tb ≠ x∧yb ≠ x∧nb ≠ x∧pb ≠ x
theorem Bx.adv {H H':Hp} {gb tb yb nb pb:Nat} {n:Int} {gs ps ss:Sl} {f:FuncId} {caps:List AV} (h:Bx H gb tb yb nb pb n gs ps ss f caps) {d b c:Nat} (a:Adv3 d b c H H') (hd:Five d gb tb yb nb pb) (hb:Five b gb tb yb nb pb) (hc:Five c gb tb yb nb pb):Bx H' gb tb yb nb pb n gs ps ss f caps:=by
 obtain ⟨d1,d2,d3,d4,d5⟩:=hd
 obtain ⟨b1,b2,b3,b4,b5⟩:=hb
 obtain ⟨c1,c2,c3,c4,c5⟩:=hc
 exact ⟨a.but _ _ d1 b1 c1 h.bg,a.but _ _ d2 b2 c2 h.bt,a.but _ _ d3 b3 c3 h.bo,a.but _ _ d4 b4 c4 h.bn,a.but _ _ d5 b5 c5 h.bp⟩
theorem Bx.five {H:Hp} {gb tb yb nb pb:Nat} {n:Int} {gs ps ss:Sl} {f:FuncId} {caps:List AV} (h:Bx H gb tb yb nb pb n gs ps ss f caps) {c:Nat} (hc:H.length ≤ c):Five c gb tb yb nb pb:=by
 have h1:=(List.getElem?_eq_some_iff.1 h.bg).1
 have h2:=(List.getElem?_eq_some_iff.1 h.bt).1
 have h3:=(List.getElem?_eq_some_iff.1 h.bo).1
 have h4:=(List.getElem?_eq_some_iff.1 h.bn).1
 have h5:=(List.getElem?_eq_some_iff.1 h.bp).1
 exact ⟨by omega,by omega,by omega,by omega,by omega⟩
theorem okSol:okF PP impl_solutions_1.id=true:=by kernel_rfl
theorem box_fn {H:Hp} {b:Nat} {f:FuncId} {cs:List AV} (h:H[b]?=some (some ⟨false,[.fn f cs]⟩)):ldF H b 0=some (f,cs):=by unfold ldF Hp.cell; rw [h]; simp [AV.toF]
theorem set_set (l:List Int) (i:Nat) (a b:Int):(l.set i a).set i b=l.set i b:=by
 apply List.ext_getElem?
 intro j
 by_cases e:i=j
 ·subst e
  by_cases h:i < l.length
  ·rw [List.getElem?_set_self (by simpa using h),List.getElem?_set_self h]
  ·rw [List.getElem?_eq_none (by simp; omega),List.getElem?_eq_none (by simp; omega)]
 ·rw [List.getElem?_set_ne e,List.getElem?_set_ne e,List.getElem?_set_ne e]
theorem set_same (l:List Int) (i:Nat) (h:l.getD i 0=0):l.set i 0=l:=by
 apply List.ext_getElem?
 intro j
 by_cases e:i=j
 ·subst e
  by_cases hi:i < l.length
  ·rw [List.getElem?_set_self hi,List.getElem?_eq_getElem hi]
   rw [List.getD_eq_getElem?_getD,List.getElem?_eq_getElem hi] at h
   simp at h; rw [h]
  ·rw [List.getElem?_eq_none (by simp; omega),List.getElem?_eq_none (by omega)]
 ·rw [List.getElem?_set_ne e]
def SolTo {σ:Type} (B:Hp) (b:Nat) (gs:Sl) (T:Nat→σ × Bool→Hp→Prop) (c:Nat) (H:Hp) (g:List Int) (R:σ × Bool) (r:An):Prop:=
 ∃ H' c' g',r=some (.bool R.2,H')∧B <+: H'∧Adv3 gs.blk b c H H'∧Own 1 B H' gs (g'.map (.int .i64))∧g'.length=g.length∧(R.2=true→g'=g)∧T c' R H'∧(c'=c ∨ H.length ≤ c')
theorem fr_step {b c0 c d:Nat} {H0 H H1:Hp} (hf:Adv2 b c0 H0 H) (ha:Adv3 d b c H H1) (hd:H0.length ≤ d) (hc:c=c0 ∨ H0.length ≤ c):Adv2 b c0 H0 H1:=
 ⟨fun e x h1 h2 hx=>by
  have he:=(List.getElem?_eq_some_iff.1 hx).1
  exact ha.but e x (by omega) h1 (by omega) (hf.but e x h1 h2 hx),Nat.le_trans hf.le ha.le⟩
theorem Sol_ok {B:Hp} {f:FuncId} {caps:List AV} {b:Nat} {gs ps ss:Sl} {σ:Type} {step:σ→List Int→σ × Bool} {T:Nat→σ × Bool→Hp→Prop} {K:Nat} (tell:Tell B f caps b gs.blk step T K) {gb tb yb nb pb:Nat} {n:Int} {given:List Int} {rs:List R} {H0:Hp} {c0:Nat} (hn:2 ≤ n∧n ≤ 4) (hzk:∀ H,Adv2 b c0 H0 H→PuzAt H n ps ss given rs) (hd0:H0.length ≤ gs.blk) (hro:∀ r ∈ rs,R.ok n r=true) (hgg:gridOk given n=true) (hd5:Five gs.blk gb tb yb nb pb) (hb5:Five b gb tb yb nb pb) :
  ∀ (rem k:Nat),K + 2000200 + rem ≤ k→∀ (H:Hp) (g:List Int) (c:Nat) (st:σ),rem ≤ g.length→B <+: H→Bx H gb tb yb nb pb n gs ps ss f caps→Five c gb tb yb nb pb→c ≠ gs.blk→B.length ≤ c→Own 1 B H gs (g.map (.int .i64))→gridOk g n=true→Le given g→fitsV n given (rs.map R.val) g=true→T c (st,true) H→Adv2 b c0 H0 H→(c=c0 ∨ H0.length ≤ c) →
   SolTo B b gs T c H g (runL step st (sols (fitsV n given (rs.map R.val)) n.toNat rem g)) (callF PP orc k impl_solutions_1.id [.int .i64 ((g.length - rem:Nat):Int),.ptr gb 0,.ptr tb 0,.ptr yb 0,.ptr nb 0,.ptr pb 0] H):=by
 have hrv:∀ r ∈ rs.map R.val,ruleOkV n r=true:=by
  intro r hr
  obtain ⟨q,hq,e⟩:=List.mem_map.1 hr
  rw [← e]; exact hro q hq
 have hgiv:∀ x,0 ≤ given.getD x 0:=fun x=>by
  have hgb:=((gridOk_iff given n).1 hgg).2.2
  by_cases h:x < given.length
  ·exact (hgb _ (mem_getD h)).1
  ·rw [List.getD_eq_getElem?_getD,List.getElem?_eq_none (by omega)]; simp
 intro rem
 induction rem with
 | zero=>
  intro k hk H g c st hrem hB hbx hc5 hcd hcB ho hg hle hf hT hfr hc0
  obtain ⟨k,rfl⟩:=Zs k (by omega)
  rw [impl_solutions_1.call]
  have rg:=own_reads ho
  have hgl:=rg.len
  have h16:=gridOk_len hg
  obtain ⟨H',c',a1,a2,a3,a4⟩:=tell.go k (by omega) c st H gs g hT hB rg h16 rfl ho.nn hcd hcB
  rw [sols,runL_one]
  have adv:Adv3 gs.blk b c H H':=adv2_adv3 a3
  refine ⟨H',c',g,?_,adv.pf ho.blk tell.bB hcB hB,adv,a3.own (Ne.symm tell.bd) (Ne.symm hcd) ho,rfl,fun _=>rfl,a2,a4⟩
  have hcg:([.sl 1 gs] ++ caps:List AV).all AV.glob=true:=by rw [List.all_append,tell.gl]; rfl
  simp (disch:=omega) only [impl_solutions_1.f,dt,df,bt,bf,nt,nf,Za,Zy,Zx,Zt,Zf,Zn,Zz,Zi,Zo,wr,AV.toB,AV.toI,AV.toS,if_true,box_sl hbx.bg,box_fn hbx.bt,tell.ok,hcg,a1]
 | succ rem ih=>
  intro k hk H g c st hrem hB hbx hc5 hcd hcB ho hg hle hf hT hfr hc0
  obtain ⟨k,rfl⟩:=Zs k (by omega)
  rw [impl_solutions_1.call]
  have rg:=own_reads ho
  have hgl:=rg.len
  have h16:=gridOk_len hg
  have hat:g.length - (rem + 1) < g.length:=by omega
  rw [sols]
  generalize hA:g.length - (rem + 1)=at' at hat ⊢
  have hnext:IntKind.i64.wrap ((at':Int) + 1)=((g.length - rem:Nat):Int):=by rw [wr (by omega) (by omega)]; omega
  have hfy:=box_fn hbx.bo
  have hcg:∀ z:Int,([.int .i64 z,.ptr gb 0,.ptr tb 0,.ptr yb 0,.ptr nb 0,.ptr pb 0]:List AV).all AV.glob=true:=fun z=>rfl
  by_cases c0:0 < g.getD at' 0
  ·rw [ip c0]
   have h1:=ih k (by omega) H g c st (by omega) hB hbx hc5 hcd hcB ho hg hle hf hT hfr hc0
   rw [← hnext] at h1
   obtain ⟨H',c',g',e1,e2⟩:=h1
   refine ⟨H',c',g',?_,e2⟩
   simp only [impl_solutions_1.f,box_sl hbx.bg,Zo,bf (show (at':Int) ≠ (gs.len:Int) by omega),Zf,Zt,dt (show (0:Int) ≤ (at':Int) by omega),dt (show (at':Int) < (gs.len:Int) by omega),Za,Zn,rdn rg hat,dt (show g.getD at' 0 > 0 from c0),hfy,okSol,hcg,List.cons_append,List.nil_append,e1,AV.toB]
  ·rw [iN c0]
   have hv0:=((gridOk_iff g n).1 hg).2.2 _ (mem_getD hat)
   have h0:g.getD at' 0=0:=by omega
   have loop:∀ (j fuel:Nat) (v x:Int) (Hc:Hp) (cc:Nat) (sc:σ),v + j=n + 1→1 ≤ v→j < fuel→B <+: Hc→Bx Hc gb tb yb nb pb n gs ps ss f caps→Five cc gb tb yb nb pb→cc ≠ gs.blk→B.length ≤ cc→Own 1 B Hc gs ((g.set at' x).map (.int .i64))→T cc (sc,true) Hc→Adv3 gs.blk b c H Hc→(cc=c ∨ H.length ≤ cc) →
     SolTo B b gs T c H g (runL step sc ((upto j v).flatMap fun v=>if fitsV n given (rs.map R.val) (g.set at' v)=true then sols (fitsV n given (rs.map R.val)) n.toNat rem (g.set at' v) else [])) (impl_solutions_1.l0 (callF PP orc k) k fuel at' gb 0 yb 0 nb 0 pb 0 v Hc):=by
    intro j
    induction j with
    | zero=>
     intro fuel v x Hc cc sc hv hv1 hfu hBc hbc hcc5 hccd hccB hoc hTc hadv hcc
     obtain ⟨fuel,rfl⟩:=Zs fuel (by omega)
     obtain ⟨H1,a1,a2,a3,a4⟩:=own_set1 hoc hBc at' (by simpa using hat) 0
     have hgl1:=(own_reads hoc).len
     simp only [List.length_set] at hgl1
     rw [set_set,set_same g at' h0] at a3
     have hld:ldI .i64 Hc nb 0=some n:=by unfold ldI Hp.cell; rw [hbc.bn]; simp [AV.toI]
     have hl1:H1.length=Hc.length:=by
      have:=own_sto hoc hBc at' [.int .i64 0] (by simp; omega)
      obtain ⟨H2,q1,q2,q3,q4,q5⟩:=this
      rw [Nat.mul_one] at a1
      rw [a1] at q1
      simp only [Option.some.injEq] at q1
      rw [q1]; exact q5
     refine ⟨H1,cc,g,?_,a2,hadv.trans (adv_adv3 a4) (.inl rfl),a3,rfl,fun _=>rfl,tell.wr _ _ _ _ hTc a4.but hl1,hcc⟩
     simp only [upto,List.flatMap_nil,runL]
     simp (disch:=omega) only [impl_solutions_1.l0,impl_solutions_1.j2,dt,df,bt,bf,nt,nf,Za,Zy,Zx,Zt,Zf,Zn,Zz,Zi,Zo,wr,AV.toB,AV.toI,AV.toS,if_true,hld,box_sl hbc.bg,a1]
    | succ j ihj=>
     intro fuel v x Hc cc sc hv hv1 hfu hBc hbc hcc5 hccd hccB hoc hTc hadv hcc
     obtain ⟨fuel,rfl⟩:=Zs fuel (by omega)
     have hld:ldI .i64 Hc nb 0=some n:=by unfold ldI Hp.cell; rw [hbc.bn]; simp [AV.toI]
     have hgl1:=(own_reads hoc).len
     simp only [List.length_set] at hgl1
     obtain ⟨H1,a1,a2,a3,a4⟩:=own_set1 hoc hBc at' (by simpa using hat) v
     rw [set_set] at a3
     have hl1:H1.length=Hc.length:=by
      have:=own_sto hoc hBc at' [.int .i64 v] (by simp; omega)
      obtain ⟨H2,q1,q2,q3,q4,q5⟩:=this
      rw [Nat.mul_one] at a1
      rw [a1] at q1
      simp only [Option.some.injEq] at q1
      rw [q1]; exact q5
     have hT1:=tell.wr _ _ _ _ hTc a4.but hl1
     have hb1:=hbc.adv (adv_adv3 (b:=b) (c:=cc) a4) hd5 hb5 hcc5
     have hg1:=grid_set hg at' v ⟨by omega,by omega⟩
     have r1:ldI .i64 H1 pb 0=some n:=by unfold ldI Hp.cell; rw [hb1.bp]; simp [AV.toI]
     have r2:ldS 1 H1 pb (0 + 1)=some ps:=by unfold ldS Hp.cell; rw [hb1.bp]; simp [AV.toS]
     have r3:ldS 3 H1 pb (0 + 1 + 1)=some ss:=by unfold ldS Hp.cell; rw [hb1.bp]; simp [AV.toS]
     obtain ⟨H2,d1,d2⟩:=cellFits_ok (show 2000042 ≤ k by omega) (hzk H1 (fr_step hfr (hadv.trans (adv_adv3 (b:=b) (c:=cc) a4) hcc) hd0 hc0)) hro (own_reads a3) hg1 (at':=at') (by simpa using hat)
     rw [← fits_step hf hg hle hgiv hat h0 ⟨hv1,by omega⟩ hrv] at d1
     have hT2:=tell.pf _ _ _ _ hT1 d2
     have hb2:=hb1.adv (pf_adv3 (d:=gs.blk) (b:=b) (c:=cc) d2) hd5 hb5 hcc5
     have hB2:=a2.trans d2
     have adv2:Adv3 gs.blk b c H H2:=(hadv.trans (adv_adv3 (b:=b) (c:=cc) a4) hcc).trans (pf_adv3 (b:=b) (c:=cc) d2) hcc
     rw [upto,List.flatMap_cons,runL_app]
     cases cf:fitsV n given (rs.map R.val) (g.set at' v) with
     | true=>
      rw [cf] at d1
      rw [ip rfl]
      obtain ⟨H3,c3,g3,e1,e2,e3,e4,e5,e6,e7,e8⟩:=ih k (by omega) H2 (g.set at' v) cc sc (by simp; omega) hB2 hb2 hcc5 hccd hccB (own_pf a3 d2) hg1 (hle.trans (by
       refine ⟨by simp,fun i=>?_⟩
       rw [getD_set]
       by_cases e:at'=i
       ·subst e; exact .inl h0
       ·rw [if_neg (by omega)]; exact .inr rfl)) cf hT2 (fr_step hfr adv2 hd0 hc0) (by have:=hfr.le; omega)
      rw [List.length_set,← hnext] at e1
      have hc3:c3=c ∨ H.length ≤ c3:=by
       have:=adv2.le
       rcases e8 with h | h
       ·rw [h]; exact hcc
       ·right; omega
      have adv3:=adv2.trans e3 hcc
      have hfy2:=box_fn hb2.bo
      cases hr:(runL step sc (sols (fitsV n given (rs.map R.val)) n.toNat rem (g.set at' v))).2 with
      | true=>
       rw [hr] at e1
       rw [ip rfl]
       have hg3:=e6 hr
       subst hg3
       have hc35:Five c3 gb tb yb nb pb:=by
        rcases e8 with h | h
        ·rw [h]; exact hcc5
        ·exact hb2.five h
       have hd3:=own_lt' (own_pf a3 d2)
       have hc3d:c3 ≠ gs.blk:=by rcases e8 with h | h; rw [h]; exact hccd; omega
       have hc3B:B.length ≤ c3:=by have:=hB2.length_le; rcases e8 with h | h; rw [h]; exact hccB; omega
       obtain ⟨H4,c4,g4,f1,f2⟩:=ihj fuel (v + 1) v H3 c3 _ (by omega) (by omega) (by omega) e2 (hb2.adv e3 hd5 hb5 hcc5) hc35 hc3d hc3B e4 (by have e7':=e7; rw [← hr]; exact e7') adv3 hc3
       refine ⟨H4,c4,g4,?_,f2⟩
       simp (disch:=omega) only [impl_solutions_1.l0,impl_solutions_1.j1,impl_solutions_1.j3,dt,Za,Zy,Zt,Zf,Zn,Zo,hld,box_sl hbc.bg,a1,r1,r2,r3,box_sl hb1.bg,d1,AV.toB,hfy2,okSol,hcg,List.cons_append,List.nil_append,e1,wr (n:=v + 1),f1]
      | false=>
       rw [hr] at e1
       rw [iN (by simp)]
       refine ⟨H3,c3,g3,?_,e2,adv3,e4,by simpa using e5,(fun h=>by rw [hr] at h; cases h),e7,hc3⟩
       rw [hr]
       simp (disch:=omega) only [impl_solutions_1.l0,impl_solutions_1.j1,impl_solutions_1.j3,dt,Za,Zx,Zt,Zf,Zn,Zo,hld,box_sl hbc.bg,a1,r1,r2,r3,box_sl hb1.bg,d1,AV.toB,hfy2,okSol,hcg,List.cons_append,List.nil_append,e1]
     | false=>
      rw [cf] at d1
      simp only [Bool.false_eq_true,if_false,runL,if_true]
      obtain ⟨H4,c4,g4,f1,f2⟩:=ihj fuel (v + 1) v H2 cc sc (by omega) (by omega) (by omega) hB2 hb2 hcc5 hccd hccB (own_pf a3 d2) hT2 adv2 hcc
      refine ⟨H4,c4,g4,?_,f2⟩
      simp (disch:=omega) only [impl_solutions_1.l0,impl_solutions_1.j1,impl_solutions_1.j3,dt,Za,Zt,Zf,Zn,Zo,hld,box_sl hbc.bg,a1,r1,r2,r3,box_sl hb1.bg,d1,AV.toB,wr (n:=v + 1),f1]
   have hset:g.set at' 0=g:=set_same g at' h0
   obtain ⟨H4,c4,g4,f1,f2⟩:=loop n.toNat k 1 0 H c st (by omega) (by omega) (by omega) hB hbx hc5 hcd hcB (by rw [hset]; exact ho) hT (Adv3.refl _ _ _ _) (.inl rfl)
   refine ⟨H4,c4,g4,?_,f2⟩
   simp only [impl_solutions_1.f,box_sl hbx.bg,Zo,bf (show (at':Int) ≠ (gs.len:Int) by omega),Zf,Zt,dt (show (0:Int) ≤ (at':Int) by omega),dt (show (at':Int) < (gs.len:Int) by omega),Za,Zn,rdn rg hat,df (show ¬ g.getD at' 0 > 0 from c0),f1]
theorem readsL0 {B H:Hp} {t:Sl} {ls:List (List Int)} (h:ReadsL B H t ls) (hl:0 < ls.length):∃ u,ldS 1 H t.blk (t.off + 0 * 1)=some u∧Own 1 B H u (ls[0].map (.int .i64)):=by
 obtain ⟨u,a,b⟩:=h.at' 0 hl
 refine ⟨u,?_,b⟩
 unfold ldS
 rw [Nat.zero_mul,a]; simp [AV.toS]
def firstV (n:Int) (given:List Int) (vs:List V):Option (List Int):=(allSols n given vs).head?
structure OutD (B:Hp) (b d:Nat) (H:Hp) (s:Sl) (ls:List (List Int)):Prop where
 cell:H[b]?=some (some ⟨false,[.sl 1 s]⟩)
 bB:B.length ≤ b
 bs:s.blk ≠ b
 bd:b ≠ d
 sd:s.blk ≠ d
 ex:∃ ss:List Sl,Own 1 B H s (ss.map (.sl 1))∧ss.length=ls.length∧∀ i,(h:i < ss.length)→(h':i < ls.length)→Own 1 B H ss[i] (ls[i].map (.int .i64))∧ss[i].blk ≠ b∧ss[i].blk ≠ s.blk∧ss[i].blk < H.length∧B.length ≤ ss[i].blk∧ss[i].blk ≠ d
theorem OutD.reads {B H:Hp} {b d:Nat} {s:Sl} {ls:List (List Int)} (h:OutD B b d H s ls):ReadsL B H s ls:=by
 obtain ⟨ss,h1,h2,h3⟩:=h.ex
 have:Outs B b H s ls:=⟨h.cell,h.bB,h.bs,ss,h1,h2,fun i hi hi'=>by
  obtain ⟨a,b,c,d,e,f⟩:=h3 i hi hi'
  exact ⟨a,b,c,d,e⟩⟩
 exact this.reads
theorem OutD.len {B H:Hp} {b d:Nat} {s:Sl} {ls:List (List Int)} (h:OutD B b d H s ls):s.len=ls.length:=h.reads.len
theorem OutD.pf {B H H':Hp} {b d:Nat} {s:Sl} {ls:List (List Int)} (h:OutD B b d H s ls) (g:H <+: H'):OutD B b d H' s ls:=by
 obtain ⟨ss,h1,h2,h3⟩:=h.ex
 exact ⟨pf_get g h.cell,h.bB,h.bs,h.bd,h.sd,ss,own_pf h1 g,h2,fun i hi hi'=>by
  obtain ⟨a,b,c,d,e,f⟩:=h3 i hi hi'
  exact ⟨own_pf a g,b,c,Nat.lt_of_lt_of_le d g.length_le,e,f⟩⟩
theorem OutD.wr {B H H':Hp} {b d:Nat} {s:Sl} {ls:List (List Int)} (h:OutD B b d H s ls) (g:But d H H') (hl:H'.length=H.length):OutD B b d H' s ls:=by
 obtain ⟨ss,h1,h2,h3⟩:=h.ex
 exact ⟨g _ _ h.bd h.cell,h.bB,h.bs,h.bd,h.sd,ss,g.own h.sd h1,h2,fun i hi hi'=>by
  obtain ⟨a,b,c,d,e,f⟩:=h3 i hi hi'
  exact ⟨g.own f a,b,c,by omega,e,f⟩⟩
theorem outD_app {B H:Hp} {b d:Nat} {s:Sl} {ls:List (List Int)} (h:OutD B b d H s ls) (hB:B <+: H) (hl:ls.length ≤ 100000) {t:Sl} {g:List Int} (ht:Own 1 B H t (g.map (.int .i64))) (t1:t.blk ≠ b) (t2:t.blk ≠ s.blk) (t3:t.blk < H.length) (t4:B.length ≤ t.blk) (t5:t.blk ≠ d) (hd:d < H.length) :
  ∃ H1 H2,H.app 1 s 1 [.sl 1 t]=some (Sl.mk false H.length 0 (ls.length + 1),H1)∧H1.sto b 0 [.sl 1 (Sl.mk false H.length 0 (ls.length + 1))]=some H2∧OutD B b d H2 (Sl.mk false H.length 0 (ls.length + 1)) (ls ++ [g])∧Adv2 b s.blk H H2∧B <+: H2:=by
 obtain ⟨ss,h1,h2,h3⟩:=h.ex
 have hsl:=h.len
 obtain ⟨H1,a1,a2,a3,a4,a5⟩:=own_app h1 hB 1 [.sl 1 t] (by omega) (by omega) (by omega) (by omega) rfl
 rw [hsl] at a1 a3
 have hb1:=a4 b _ (Ne.symm h.bs) h.cell
 obtain ⟨H2,c1,c2,c3,c4⟩:=sto1' hb1 (.sl 1 (Sl.mk false H.length 0 (ls.length + 1)))
 have hbl:=(List.getElem?_eq_some_iff.1 h.cell).1
 have adv:Adv2 b s.blk H H2:=⟨fun d x d1 d2 hx=>c3 d x d1 (a4 d x d2 hx),by omega⟩
 refine ⟨H1,H2,a1,c1,⟨c2,h.bB,by simp only; omega,h.bd,by simp only; omega,ss ++ [t],?_,by simp [h2],fun i hi hi'=>?_⟩,adv,adv.pf h.bB h1.blk hB⟩
 ·have:=c3.own (by simp only; omega) a3
  simpa using this
 ·by_cases e:i < ss.length
  ·obtain ⟨q1,q2,q3,q4,q5,q6⟩:=h3 i e (by omega)
   rw [List.getElem_append_left e,List.getElem_append_left (by omega)]
   exact ⟨adv.own q2 q3 q1,q2,by simp only; omega,by omega,q5,q6⟩
  ·have ei:i=ss.length:=by simp at hi; omega
   subst ei
   have e1:(ss ++ [t])[ss.length]=t:=by simp
   have e2:(ls ++ [g])[ss.length]=g:=by simp [h2]
   rw [e1,e2]
   exact ⟨adv.own t1 t2 ht,t1,by simp only; omega,by omega,t4,t5⟩
structure TF (B:Hp) (b mb:Nat) (most:Int) (d c:Nat) (st:List (List Int) × Bool) (H:Hp):Prop where
 ex:∃ s:Sl,s.blk=c∧OutD B b d H s st.1
 m:H[mb]?=some (some ⟨false,[.int .i64 most]⟩)
 m1:mb ≠ b
 m2:mb ≠ c
 m3:mb ≠ d
 hd:d < H.length
 lt:st.2=true→(st.1.length:Int) < most
def stepF (most:Int) (ls:List (List Int)) (x:List Int):List (List Int) × Bool:=(ls ++ [x],decide (((ls.length + 1:Nat):Int) < most))
theorem tell_first {B:Hp} {b d mb:Nat} {most:Int} (hbd:b ≠ d) (hbB:B.length ≤ b) (hm:most ≤ 1000):Tell B impl_firstSolutions_1.id [.ptr b 0,.ptr mb 0] b d (stepF most) (TF B b mb most d) 10:=by
 refine ⟨by kernel_rfl,rfl,hbB,hbd,?_,?_,?_⟩
 ·rintro c st H H' ⟨⟨s,hc,ho⟩,m,m1,m2,m3,hd,hlt⟩ g
  exact ⟨⟨s,hc,ho.pf g⟩,pf_get g m,m1,m2,m3,Nat.lt_of_lt_of_le hd g.length_le,hlt⟩
 ·rintro c st H H' ⟨⟨s,hc,ho⟩,m,m1,m2,m3,hd,hlt⟩ g hl
  exact ⟨⟨s,hc,ho.wr g hl⟩,g _ _ m3 m,m1,m2,m3,by omega,hlt⟩
 ·rintro k hk c st H t g ⟨⟨s,hc,ho⟩,m,m1,m2,m3,hd,hlt⟩ hB hr h16 htd htn hcd hcB
  subst hc
  have hlt':=hlt rfl
  simp only at hlt' ho
  obtain ⟨k,rfl⟩:=Zs k (by omega)
  have hcell:ldS 1 H b 0=some s:=by unfold ldS Hp.cell; rw [ho.cell]; simp [AV.toS]
  have hbl:=(List.getElem?_eq_some_iff.1 ho.cell).1
  have hml:=(List.getElem?_eq_some_iff.1 m).1
  have g1:H <+: H ++ [some (Blk.mk false (g.map (.int .i64)))]:=List.prefix_append _ _
  have hnew:=own_new 1 H (g.map (.int .i64)) g.length (by simp)
  have hst:stableB H (H ++ [some (Blk.mk false (g.map (.int .i64)))]) b 0 1=true:=by
   have e1:H.cell b 0=some (.sl 1 s):=by unfold Hp.cell; rw [ho.cell]; rfl
   have e2:=pf_cell g1 e1
   unfold stableB
   simp [e1,e2,AV.same]
  have hob:s.blk < H.length:=by obtain ⟨ss,h1,_⟩:=ho.ex; exact own_lt' h1
  have hcl:=Clone_own (show 1 ≤ k by omega) hr htn (by omega)
  obtain ⟨H1,H2,a1,a2,a3,a4,a5⟩:=outD_app (ho.pf g1) (hB.trans g1) (by omega) (own_base hnew hB) (by first | omega | (simp only; omega) | (simp; omega)) (by first | omega | (simp only; omega) | (simp; omega)) (by simp) hB.length_le (by first | omega | (simp only; omega) | (simp; omega)) (by simp; omega)
  have adv:Adv2 b s.blk H H2:=(pf_adv2 g1).trans a4 (.inl rfl)
  have hm2:=adv.but _ _ m1 m2 m
  have hl2:ldS 1 H2 b 0=some (Sl.mk false (H ++ [some (Blk.mk false (g.map (.int .i64)))]).length 0 (st.length + 1)):=by unfold ldS Hp.cell; rw [a3.cell]; simp [AV.toS]
  have hm3:ldI .i64 H2 mb 0=some most:=by unfold ldI Hp.cell; rw [hm2]; simp [AV.toI]
  refine ⟨H2,(H ++ [some (Blk.mk false (g.map (.int .i64)))]).length,?_,⟨⟨_,rfl,a3⟩,hm2,m1,(by first | omega | (simp only; omega) | (simp; omega)),m3,by have:=adv.le; omega,?_⟩,adv,.inr (by simp)⟩
  ·show callF PP orc (k + 1) impl_firstSolutions_1.id [.sl 1 t,.ptr b 0,.ptr mb 0] H=some (.bool (decide (((st.length + 1:Nat):Int) < most)),H2)
   rw [impl_firstSolutions_1.call]
   simp (disch:=omega) only [impl_firstSolutions_1.f,dt,df,bt,bf,nt,nf,Za,Zy,Zx,Zt,Zf,Zn,Zz,Zi,Zo,wr,AV.toB,AV.toI,AV.toS,if_true,hcell,hcl,hst,a1,a2,hl2,hm3]
  ·intro h
   have h':decide (((st.length + 1:Nat):Int) < most)=true:=h
   have h2:=of_decide_eq_true h'
   show (((st ++ [g]).length:Nat):Int) < most
   rw [List.length_append]; exact h2
theorem runL_first (most:Nat):∀ (L ls:List (List Int)),ls.length < most→(runL (stepF most) ls L).1=ls ++ L.take (most - ls.length)
 | [],ls,h=>by simp [runL]
 | x :: L,ls,h=>by
  rw [runL]
  have e:most - ls.length=(most - (ls.length + 1)) + 1:=by omega
  by_cases c:((ls.length + 1:Nat):Int) < (most:Int)
  ·rw [if_pos (show (stepF most ls x).2=true from decide_eq_true c)]
   show (runL (stepF most) (ls ++ [x]) L).1=_
   rw [runL_first most L (ls ++ [x]) (by simp; omega),e]
   simp
  ·rw [if_neg (by show ¬ decide (((ls.length + 1:Nat):Int) < (most:Int))=true; simp; omega)]
   show ls ++ [x]=_
   have:most - ls.length=1:=by omega
   rw [this]; simp
theorem sto_end {H:Hp} {x:AV} (v:AV):∃ H',(H ++ [some (Blk.mk false [x])]).sto H.length 0 [v]=some H'∧H <+: H'∧H'[H.length]?=some (some ⟨false,[v]⟩)∧H'.length=H.length + 1:=by
 obtain ⟨H',a,b,c,d⟩:=sto1' (H:=H ++ [some (Blk.mk false [x])]) (b:=H.length) (x:=x) (by simp) v
 exact ⟨H',a,c.pf (H0:=H) (Nat.le_refl _) (List.prefix_append _ _) (by omega),b,by rw [d]; simp⟩
theorem solutions_gen {B H:Hp} (hB:B <+: H) {n:Int} {gs ss:Sl} {given:List Int} {rs:List R} {b c:Nat} (hzk:∀ H',Adv2 b c H H'→PuzAt H' n gs ss given rs) (hnil:gs.nil=false) {σ:Type} {step:σ→List Int→σ × Bool} {T:Nat→Nat→σ × Bool→Hp→Prop} {K:Nat} {f:FuncId} {caps:List AV} (hbl:b < H.length) (hcl:c < H.length) (hcB:B.length ≤ c)
  (tell:∀ d,H.length ≤ d→Tell B f caps b d step (T d) K) (st:σ) (hT:∀ d H1,H.length ≤ d→d < H1.length→H <+: H1→T d c (st,true) H1) {k:Nat} (hk:K + 2000400 ≤ k) :
  ∃ H' c' d,callF PP orc k impl_solutions.id [.agg [.int .i64 n,.sl 1 gs,.sl 3 ss],.sl 1 gs,.fn f caps] H=some (.tup [],H')∧B <+: H'∧Adv2 b c H H'∧T d c' (runL step st (allSols n given (rs.map R.val))) H':=by
 obtain ⟨k,rfl⟩:=Zs k (by omega)
 rw [impl_solutions.call]
 have hz:=hzk H (pf_adv2 (List.prefix_refl _))
 have hgl:=hz.gl
 obtain ⟨Ha,hHa⟩:∃ X,H ++ [some (Blk.mk false [.int .i64 n,.sl 1 gs,.sl 3 ss])]=X:=⟨_,rfl⟩
 obtain ⟨Hb,hHb⟩:∃ X,Ha ++ [some (Blk.mk false [.fn f caps])]=X:=⟨_,rfl⟩
 have la:Ha.length=H.length + 1:=by rw [← hHa]; simp
 have lb:Hb.length=H.length + 2:=by rw [← hHb]; simp; omega
 have pa:H <+: Ha:=by rw [← hHa]; exact List.prefix_append _ _
 have pb:Ha <+: Hb:=by rw [← hHb]; exact List.prefix_append _ _
 have ba:Ha[H.length]?=some (some ⟨false,[.int .i64 n,.sl 1 gs,.sl 3 ss]⟩):=by rw [← hHa]; simp
 have bb:Hb[Ha.length]?=some (some ⟨false,[.fn f caps]⟩):=by rw [← hHb]; simp
 have pBb:=(hB.trans pa).trans pb
 have c1:=Clone_own (show 1 ≤ k by omega) (pf_reads (pa.trans pb) hz.rg) hnil (by omega)
 obtain ⟨Hc,hHc⟩:∃ X,Hb ++ [some (Blk.mk false (given.map (.int .i64)))]=X:=⟨_,rfl⟩
 rw [hHc] at c1
 have lc:Hc.length=H.length + 3:=by rw [← hHc]; simp; omega
 have pc:Hb <+: Hc:=by rw [← hHc]; exact List.prefix_append _ _
 have hown:Own 1 Hb Hc (Sl.mk false Hb.length 0 given.length) (given.map (.int .i64)):=by rw [← hHc]; exact own_new 1 Hb _ _ (by simp)
 obtain ⟨Hd,d1,d2,d3,d4⟩:=sto_end (H:=Hc) (x:=.sl 1 Sl.none) (.sl 1 (Sl.mk false Hb.length 0 given.length))
 have qa:=pf_get ((pb.trans pc).trans d2) ba
 have qb:=pf_get (pc.trans d2) bb
 have pBd:=(pBb.trans pc).trans d2
 have ho:=own_pf hown d2
 have r1:ldI .i64 Hd H.length 0=some n:=by unfold ldI Hp.cell; rw [qa]; simp [AV.toI]
 have r2:ldS 1 Hd H.length (0 + 1)=some gs:=by unfold ldS Hp.cell; rw [qa]; simp [AV.toS]
 have r3:ldS 3 Hd H.length (0 + 1 + 1)=some ss:=by unfold ldS Hp.cell; rw [qa]; simp [AV.toS]
 have r4:=box_sl d3
 obtain ⟨He,e1,e2⟩:=implPuzzleFits_ok (show 2000042 ≤ k by omega) (hz.pf (((pa.trans pb).trans pc).trans d2)) (own_reads ho) hgl
 have pHe:H <+: He:=(((pa.trans pb).trans pc).trans d2).trans e2
 have hle:=e2.length_le
 unfold allSols
 cases cf:puzzleFitsV n given (rs.map R.val) given with
 | false=>
  rw [cf] at e1
  rw [iN (by simp)]
  refine ⟨He,c,Hb.length,?_,pBd.trans e2,pf_adv2 pHe,by rw [runL]; exact hT _ _ (by omega) (by omega) pHe⟩
  simp (disch:=omega) only [impl_solutions.f,dt,df,bt,bf,nt,nf,Za,Zy,Zx,Zt,Zf,Zn,Zz,Zi,Zo,wr,AV.toB,AV.toI,AV.toS,if_true,hHa,hHb,c1,d1,r1,r2,r3,r4,e1]
 | true=>
  rw [cf] at e1
  rw [ip rfl]
  unfold puzzleFitsV at cf
  simp only [Bool.and_eq_true] at cf
  obtain ⟨q1,q2,q3⟩:=puzzleV_iff cf.1
  have h16:=gridOk_len q1
  have ra:=pf_get e2 qa
  have s1:ldI .i64 He H.length (0 + 0)=some n:=by unfold ldI Hp.cell; rw [ra]; simp [AV.toI]
  obtain ⟨Hf,f1,f2,f3,f4⟩:=sto_end (H:=He) (x:=.int .i64 0) (.int .i64 n)
  obtain ⟨Hg,g1,g2,g3,g4⟩:=sto_end (H:=Hf) (x:=.nilf) (.fn impl_solutions_1.id [.ptr Hc.length 0,.ptr Ha.length 0,.ptr Hf.length 0,.ptr He.length 0,.ptr H.length 0])
  have s2:=box_fn g3
  have pBg:=((pBd.trans e2).trans f2).trans g2
  have pHg:=(pHe.trans f2).trans g2
  have hBH:=hB.length_le
  have hog:Own 1 B Hg (Sl.mk false Hb.length 0 given.length) (given.map (.int .i64)):=own_base (own_pf ho ((e2.trans f2).trans g2)) pBb
  have hbx:Bx Hg Hc.length Ha.length Hf.length He.length H.length n (Sl.mk false Hb.length 0 given.length) gs ss f caps:=
   ⟨pf_get ((e2.trans f2).trans g2) d3,pf_get ((e2.trans f2).trans g2) qb,g3,pf_get g2 f3,pf_get (f2.trans g2) ra⟩
  obtain ⟨H',c',g',w1,w2,w3,w4,w5,w6,w7,w8⟩:=Sol_ok (tell Hb.length (by omega)) (gs:=Sl.mk false Hb.length 0 given.length) (H0:=H) (c0:=c) hz.n4 hzk (by simp only; omega) q3 q1 (gb:=Hc.length) (tb:=Ha.length) (yb:=Hf.length) (nb:=He.length) (pb:=H.length) ⟨(by first | omega | (simp only; omega) | (simp; omega)),(by first | omega | (simp only; omega) | (simp; omega)),(by first | omega | (simp only; omega) | (simp; omega)),(by first | omega | (simp only; omega) | (simp; omega)),(by first | omega | (simp only; omega) | (simp; omega))⟩ ⟨(by first | omega | (simp only; omega) | (simp; omega)),(by first | omega | (simp only; omega) | (simp; omega)),(by first | omega | (simp only; omega) | (simp; omega)),(by first | omega | (simp only; omega) | (simp; omega)),(by first | omega | (simp only; omega) | (simp; omega))⟩ given.length k (by omega) Hg given c st (Nat.le_refl _) pBg hbx ⟨(by first | omega | (simp only; omega) | (simp; omega)),(by first | omega | (simp only; omega) | (simp; omega)),(by first | omega | (simp only; omega) | (simp; omega)),(by first | omega | (simp only; omega) | (simp; omega)),(by first | omega | (simp only; omega) | (simp; omega))⟩ (by simp only; omega) hcB hog q1 (Le.refl given) cf.2.2 (hT _ _ (by omega) (by omega) pHg) (pf_adv2 pHg) (.inl rfl)
  rw [Nat.sub_self] at w1
  have w1':callF PP orc k impl_solutions_1.id ([.int .i64 0] ++ [.ptr Hc.length 0,.ptr Ha.length 0,.ptr Hf.length 0,.ptr He.length 0,.ptr H.length 0]) Hg=_:=w1
  refine ⟨H',c',Hb.length,?_,w2,?_,w7⟩
  ·have hcg:([.int .i64 0] ++ [.ptr Hc.length 0,.ptr Ha.length 0,.ptr Hf.length 0,.ptr He.length 0,.ptr H.length 0]:List AV).all AV.glob=true:=rfl
   simp (disch:=omega) only [impl_solutions.f,dt,df,bt,bf,nt,nf,Za,Zy,Zx,Zt,Zf,Zn,Zz,Zi,Zo,wr,AV.toB,AV.toI,AV.toS,if_true,hHa,hHb,c1,d1,r1,r2,r3,r4,e1,s1,f1,g1,s2,okSol,hcg,w1']
  ·refine ⟨fun e x h1 h2 hx=>?_,by have:=w3.le; have:=pHg.length_le; omega⟩
   have hel:=(List.getElem?_eq_some_iff.1 hx).1
   exact w3.but e x (by simp only; omega) h1 h2 (pf_get pHg hx)
theorem solutions_ok {B H:Hp} (hB:B <+: H) {n:Int} {gs ss:Sl} {given:List Int} {rs:List R} (hz:PuzAt B n gs ss given rs) (hnil:gs.nil=false) {σ:Type} {step:σ→List Int→σ × Bool} {T:Nat→Nat→σ × Bool→Hp→Prop} {K b c:Nat} {f:FuncId} {caps:List AV} (hbl:b < H.length) (hcl:c < H.length) (hbB:B.length ≤ b) (hcB:B.length ≤ c)
  (tell:∀ d,H.length ≤ d→Tell B f caps b d step (T d) K) (st:σ) (hT:∀ d H1,H.length ≤ d→d < H1.length→H <+: H1→T d c (st,true) H1) {k:Nat} (hk:K + 2000400 ≤ k) :
  ∃ H' c' d,callF PP orc k impl_solutions.id [.agg [.int .i64 n,.sl 1 gs,.sl 3 ss],.sl 1 gs,.fn f caps] H=some (.tup [],H')∧B <+: H'∧Adv2 b c H H'∧T d c' (runL step st (allSols n given (rs.map R.val))) H':=
 solutions_gen hB (fun H' a=>hz.pf (a.pf hbB hcB hB)) hnil hbl hcl hcB tell st hT hk
theorem firstSolutions_ok {k:Nat} (hk:2000500 ≤ k) {H:Hp} {n:Int} {gs s:Sl} {given:List Int} {rs:List R} (hz:PuzAt H n gs s given rs) (hnil:gs.nil=false) {most:Nat} (h0:1 ≤ most) (hmost:most ≤ 1000) :
  ∃ t H',callF PP orc k impl_firstSolutions.id [.agg [.int .i64 n,.sl 1 gs,.sl 3 s],.sl 1 gs,.int .i64 (most:Int)] H=some (.sl 1 t,H')∧H <+: H'∧ReadsL H H' t ((allSols n given (rs.map R.val)).take most):=by
 obtain ⟨k,rfl⟩:=Zs k (by omega)
 rw [impl_firstSolutions.call]
 obtain ⟨Ha,hHa⟩:∃ X,H ++ [some (Blk.mk false [.int .i64 (most:Int)])]=X:=⟨_,rfl⟩
 obtain ⟨Hb,hHb⟩:∃ X,Ha ++ [some (Blk.mk false ([]:List AV))]=X:=⟨_,rfl⟩
 have la:Ha.length=H.length + 1:=by rw [← hHa]; simp
 have lb:Hb.length=H.length + 2:=by rw [← hHb]; simp; omega
 have pa:H <+: Ha:=by rw [← hHa]; exact List.prefix_append _ _
 have pb:Ha <+: Hb:=by rw [← hHb]; exact List.prefix_append _ _
 have ba:Ha[H.length]?=some (some ⟨false,[.int .i64 (most:Int)]⟩):=by rw [← hHa]; simp
 have bb:Hb[Ha.length]?=some (some ⟨false,[]⟩):=by rw [← hHb]; simp
 obtain ⟨Hc,c1,c2,c3,c4⟩:=sto_end (H:=Hb) (x:=.sl 1 Sl.none) (.sl 1 (Sl.mk false Ha.length 0 0))
 have pHc:=(pa.trans pb).trans c2
 have ho1:∀ d,Hc.length ≤ d→OutD H Hb.length d Hc (Sl.mk false Ha.length 0 0) []:=fun d hd=>
  ⟨c3,by omega,by simp only; omega,by omega,by simp only; omega,[],⟨rfl,rfl,by simp only; omega,pf_get c2 bb,rfl⟩,rfl,fun i hi=>by simp at hi⟩
 obtain ⟨H',c',d,w1,w2,w3,⟨⟨o,w4,w5⟩,w6,w7,w8,w9,w10,w11⟩⟩:=solutions_ok (B:=H) (H:=Hc) pHc hz hnil (b:=Hb.length) (c:=Ha.length) (K:=10) (T:=TF H Hb.length H.length most) (step:=stepF most) (f:=impl_firstSolutions_1.id) (caps:=[.ptr Hb.length 0,.ptr H.length 0]) (by omega) (by omega) (by omega) (by omega)
  (fun d hd=>tell_first (by omega) (by omega) (by omega)) [] (fun d H1 h1 h2 h3=>⟨⟨_,rfl,(ho1 d h1).pf h3⟩,pf_get (((pb.trans c2)).trans h3) ba,by omega,by omega,by omega,h2,fun _=>by simp; omega⟩) (show 10 + 2000400 ≤ k by omega)
 rw [runL_first most _ [] (by simp; omega)] at w5
 simp only [List.nil_append,Zm,Nat.sub_zero] at w5
 have hl:ldS 1 H' Hb.length 0=some o:=box_sl w5.cell
 refine ⟨o,H',?_,w2,w5.reads⟩
 simp (disch:=omega) only [impl_firstSolutions.f,dt,df,bt,bf,nt,nf,Za,Zy,Zx,Zt,Zf,Zn,Zz,Zi,Zo,wr,AV.toB,AV.toI,AV.toS,if_true,hHa,hHb,c1,w1,hl]
end Go.Proofs.Ytjikkamhljbipaa.Rp
