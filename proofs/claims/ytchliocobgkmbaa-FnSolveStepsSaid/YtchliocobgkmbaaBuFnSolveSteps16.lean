/- Texts for the row of the law FnSolveSteps, part 16: the plain machine, the program's functions on it, what they come to. No conditions. -/
import Derived.Test.YtchliocobgkmbaaBuFnSolveSteps15
import Derived.Test.YtchliocobgkmbaaBuFnSolveSteps6
import Derived.Test.YtchliocobgkmbaaBuFnSolveSteps14
import Derived.Test.YtchliocobgkmbaaBuFnSolveSteps7
import Derived.Test.YtchliocobgkmbaaBuFnSolveSteps8
import Derived.Test.YtchliocobgkmbaaBuFnSolveSteps9
set_option linter.unusedVariables false
set_option linter.unusedSimpArgs false
namespace Go.Proofs.Ytchliocobgkmbaa.Rp
open Go Go.RowKit Go.Proofs.Ytchliocobgkmbaa.Ab
def NilOr (H0 H:Hp) (t:Sl) (l:List Int):Prop:=(t=Sl.none∧l=[]) ∨ Own 1 H0 H t (l.map (.int .i64))
theorem NilOr.reads {H0 H:Hp} {t:Sl} {l:List Int} (h:NilOr H0 H t l):Reads .i64 H t l:=by
 rcases h with ⟨h1,h2⟩ | h
 ·subst h1; subst h2; exact reads_nil rfl
 ·exact own_reads h
theorem NilOr.pf {H0 H H':Hp} {t:Sl} {l:List Int} (h:NilOr H0 H t l) (g:H <+: H'):NilOr H0 H' t l:=by
 rcases h with h | h
 ·exact .inl h
 ·exact .inr (own_pf h g)
theorem NilOr.base {H0 H1 H:Hp} {t:Sl} {l:List Int} (h:NilOr H1 H t l) (g:H0 <+: H1):NilOr H0 H t l:=by
 rcases h with h | h
 ·exact .inl h
 ·exact .inr (own_base h g)
theorem NilOr.nn {H0 H:Hp} {t:Sl} {l:List Int} (h:NilOr H0 H t l) (hl:l ≠ []):t.nil=false:=by
 rcases h with ⟨_,h⟩ | h
 ·exact absurd h hl
 ·exact h.nn
theorem OnesCount_ok {k:Nat} (hk:2 ≤ k) {n m:Int} (hm:maskOk n m=true) (H:Hp):callF PP orc k math_bits_OnesCount.id [.int .u64 (IntKind.u64.wrap m)] H=some (.int .i64 (cntM m),H):=by
 obtain ⟨k,rfl⟩:=Zs k (by omega)
 rw [math_bits_OnesCount.call]
 have h1:callF PP orc k math_bits_OnesCount64.id [.int .u64 (IntKind.u64.wrap m)] H=some (.int .i64 (cntM m),H):=by
  obtain ⟨k,rfl⟩:=Zs k (by omega)
  rw [math_bits_OnesCount64.call]
  obtain ⟨h1,h2⟩:=maskOk_iff.1 hm
  have ht:=topMask_le n
  obtain ⟨a,ha,ha16⟩:∃ a:Nat,m=((2 * a:Nat):Int)∧a < 16:=⟨(m / 2).toNat,by rw [Int.tmod_eq_emod_of_nonneg h1.1] at h2; omega,by omega⟩
  subst ha
  have:a=0 ∨ a=1 ∨ a=2 ∨ a=3 ∨ a=4 ∨ a=5 ∨ a=6 ∨ a=7 ∨ a=8 ∨ a=9 ∨ a=10 ∨ a=11 ∨ a=12 ∨ a=13 ∨ a=14 ∨ a=15:=by omega
  rcases this with rfl | rfl | rfl | rfl | rfl | rfl | rfl | rfl | rfl | rfl | rfl | rfl | rfl | rfl | rfl | rfl <;> (show _=_; kernel_rfl)
 simp only [math_bits_OnesCount.f,h1,Zo,AV.toI,if_true]
theorem all_getD {p:Int→Bool} {l:List Int} {i:Nat} (h:i < l.length):(l.drop i).all p=(p (l.getD i 0) && (l.drop (i + 1)).all p):=by
 rw [List.drop_eq_getElem_cons h,List.all_cons,List.getD_eq_getElem?_getD,List.getElem?_eq_getElem h]; rfl
theorem tab_andnot:∀ n:Nat,n < 5→∀ m:Nat,m < 64→(n < 2 ∨ ((IntKind.i64.wrap (((BitVec.ofInt IntKind.i64.bits ((m:Nat):Int) &&& ~~~(BitVec.ofInt IntKind.i64.bits (topMask n))).toNat:Int))) != 0)=!maskOk n m):=by decide +kernel
theorem implMasksValid_l2 {k:Nat} (hk:1 ≤ k) {n:Int} (hn:2 ≤ n∧n ≤ 4) {H:Hp} {s:Sl} {l:List Int} (hs:Reads .i64 H s l) (hl:l.length ≤ 1000) (hr:∀ m ∈ l,-2 ≤ m∧m ≤ 63) :
  ∀ (j i fuel:Nat),i + j=l.length→j < fuel→impl_MasksValid.l2 (callF PP orc k) k fuel n s (l.length:Int) i H=some (.bool ((l.drop i).all (maskOk n)),H):=by
 have hsl:=hs.len
 intro j
 induction j with
 | zero=>
  intro i fuel hi hf
  obtain ⟨fuel,rfl⟩:=Zs fuel (by omega)
  rw [List.drop_eq_nil_of_le (by omega)]
  simp (disch:=omega) only [impl_MasksValid.l2,dt,df,bt,bf,nt,nf,Za,Zy,Zx,Zt,Zf,Zn,Zz,Zi,Zo,wr,AV.toB,AV.toI,AV.toS,if_true,List.all_nil]
 | succ j ih=>
  intro i fuel hi hf
  obtain ⟨fuel,rfl⟩:=Zs fuel (by omega)
  have hi2:i < l.length:=by omega
  have hm:=hr _ (mem_getD hi2)
  have d1:=ih (i + 1) fuel (by omega) (by omega)
  push_cast at d1
  rw [all_getD hi2]
  by_cases c:l.getD i 0 < 0
  ·have e:maskOk n (l.getD i 0)=false:=by
    rw [Bool.eq_false_iff]; intro h; have:=(maskOk_iff.1 h).1; omega
   rw [e,Bool.false_and]
   simp (disch:=omega) only [impl_MasksValid.l2,impl_MasksValid.j3,dt,df,bt,bf,nt,nf,Za,Zy,Zx,Zt,Zf,Zn,Zz,Zi,Zo,wr,AV.toB,AV.toI,AV.toS,if_true,rdn hs]
  ·have ht:=tab_andnot n.toNat (by omega) (l.getD i 0).toNat (by omega)
   rw [show ((n.toNat:Nat):Int)=n by omega,show (((l.getD i 0).toNat:Nat):Int)=l.getD i 0 by omega] at ht
   have ht':=ht.resolve_left (by omega)
   cases e:maskOk n (l.getD i 0) with
   | false=>
    rw [e] at ht'
    simp (disch:=omega) only [impl_MasksValid.l2,impl_MasksValid.j3,dt,df,bt,bf,nt,nf,Za,Zy,Zx,Zt,Zf,Zn,Zz,Zi,Zo,wr,AV.toB,AV.toI,AV.toS,if_true,rdn hs,allValues_ok hk hn,ht',Bool.false_and]
   | true=>
    rw [e] at ht'
    simp (disch:=omega) only [impl_MasksValid.l2,impl_MasksValid.j3,impl_MasksValid.j4,dt,df,bt,bf,nt,nf,Za,Zy,Zx,Zt,Zf,Zn,Zz,Zi,Zo,wr,AV.toB,AV.toI,AV.toS,if_true,rdn hs,allValues_ok hk hn,ht',Bool.true_and,d1]
theorem implMasksValid_ok {k:Nat} (hk:2000000 ≤ k) {n:Int} (hb:-1 ≤ n∧n ≤ 5) {H:Hp} {s:Sl} {l:List Int} (hs:Reads .i64 H s l) (hl:l.length ≤ 1000) (hr:∀ m ∈ l,-2 ≤ m∧m ≤ 63) :
  callF PP orc k impl_MasksValid.id [.sl 1 s,.int .i64 n] H=some (.bool (masksOk n l),H):=by
 obtain ⟨k,rfl⟩:=Zs k (by omega)
 rw [impl_MasksValid.call]
 have hsl:=hs.len
 have h1:=sizeOk_ok (show 1 ≤ k by omega) n H
 have h7:=n7 hb
 unfold masksOk
 by_cases hn:2 ≤ n∧n ≤ 4
 ·rw [decide_eq_true hn] at h1 ⊢
  by_cases c:(l.length:Int)=n * n
  ·have d1:=implMasksValid_l2 (show 1 ≤ k by omega) hn hs hl hr l.length 0 k (by omega) (by omega)
   simp only [Int.natCast_zero,List.drop_zero] at d1
   rw [decide_eq_true c,Bool.and_true,Bool.true_and]
   simp (disch:=omega) only [impl_MasksValid.f,impl_MasksValid.j0,impl_MasksValid.j1,dt,df,bt,bf,nt,nf,Za,Zy,Zx,Zt,Zf,Zn,Zz,Zi,Zo,wr,AV.toB,AV.toI,AV.toS,if_true,h1,hsl,wr (n:=n * n),nf c,d1]
  ·rw [decide_eq_false c,Bool.and_false,Bool.and_false]
   simp (disch:=omega) only [impl_MasksValid.f,impl_MasksValid.j0,impl_MasksValid.j1,dt,df,bt,bf,nt,nf,Za,Zy,Zx,Zt,Zf,Zn,Zz,Zi,Zo,wr,AV.toB,AV.toI,AV.toS,if_true,h1,hsl,wr (n:=n * n),nt c]
 ·rw [decide_eq_false hn] at h1 ⊢
  rw [Bool.false_and]
  simp only [impl_MasksValid.f,impl_MasksValid.j0,dt,df,bt,bf,nt,nf,Za,Zy,Zx,Zt,Zf,Zn,Zz,Zi,Zo,wr,AV.toB,AV.toI,AV.toS,if_true,h1]
theorem Equal_l0 (rec:Rec) (k:Nat) {H:Hp} {s t:Sl} {x y:List Int} (hs:Reads .i64 H s x) (ht:Reads .i64 H t y) (hl:x.length=y.length) (h1:x.length ≤ 1000) :
  ∀ (j i fuel:Nat),i + j=x.length→j < fuel→slices_Equal_int.l0 rec k fuel s t (x.length:Int) i H=some (.bool (decide (x.drop i=y.drop i)),H):=by
 have hsl:=hs.len
 have htl:=ht.len
 intro j
 induction j with
 | zero=>
  intro i fuel hi hf
  obtain ⟨fuel,rfl⟩:=Zs fuel (by omega)
  rw [List.drop_eq_nil_of_le (show x.length ≤ i by omega),List.drop_eq_nil_of_le (show y.length ≤ i by omega)]
  simp (disch:=omega) only [slices_Equal_int.l0,dt,df,bt,bf,nt,nf,Za,Zy,Zx,Zt,Zf,Zn,Zz,Zi,Zo,wr,AV.toB,AV.toI,AV.toS,if_true]
  rfl
 | succ j ih=>
  intro i fuel hi hf
  obtain ⟨fuel,rfl⟩:=Zs fuel (by omega)
  have hx:i < x.length:=by omega
  have hy:i < y.length:=by omega
  have ex:x.drop i=x.getD i 0 :: x.drop (i + 1):=by
   rw [List.drop_eq_getElem_cons hx,List.getD_eq_getElem?_getD,List.getElem?_eq_getElem hx]; rfl
  have ey:y.drop i=y.getD i 0 :: y.drop (i + 1):=by
   rw [List.drop_eq_getElem_cons hy,List.getD_eq_getElem?_getD,List.getElem?_eq_getElem hy]; rfl
  rw [ex,ey]
  by_cases c:x.getD i 0=y.getD i 0
  ·have d1:=ih (i + 1) fuel (by omega) (by omega)
   push_cast at d1
   rw [show decide (x.getD i 0 :: x.drop (i + 1)=y.getD i 0 :: y.drop (i + 1))=decide (x.drop (i + 1)=y.drop (i + 1)) by rw [c]; simp,← d1]
   simp (disch:=omega) only [slices_Equal_int.l0,dt,df,bt,bf,nt,nf,Za,Zy,Zx,Zt,Zf,Zn,Zz,Zi,Zo,wr,AV.toB,AV.toI,AV.toS,if_true,rdn hs,rdn ht,nf]
  ·rw [show decide (x.getD i 0 :: x.drop (i + 1)=y.getD i 0 :: y.drop (i + 1))=false from decide_eq_false fun h=>c (List.cons.inj h).1]
   simp (disch:=omega) only [slices_Equal_int.l0,dt,df,bt,bf,nt,nf,Za,Zy,Zx,Zt,Zf,Zn,Zz,Zi,Zo,wr,AV.toB,AV.toI,AV.toS,if_true,rdn hs,rdn ht,nt]
theorem Equal_ok {k:Nat} (hk:2000000 ≤ k) {H:Hp} {s t:Sl} {x y:List Int} (hs:Reads .i64 H s x) (ht:Reads .i64 H t y) (h1:x.length ≤ 1000) (h2:y.length ≤ 1000) :
  callF PP orc k slices_Equal_int.id [.sl 1 s,.sl 1 t] H=some (.bool (decide (x=y)),H):=by
 obtain ⟨k,rfl⟩:=Zs k (by omega)
 rw [slices_Equal_int.call]
 have hsl:=hs.len
 have htl:=ht.len
 by_cases c:x.length=y.length
 ·have d1:=Equal_l0 (callF PP orc k) k hs ht c h1 x.length 0 k (by omega) (by omega)
  simp only [Int.natCast_zero,List.drop_zero] at d1
  rw [← d1,← hsl]
  simp (disch:=omega) only [slices_Equal_int.f,dt,df,bt,bf,nt,nf,Za,Zy,Zx,Zt,Zf,Zn,Zz,Zi,Zo,wr,AV.toB,AV.toI,AV.toS,if_true]
 ·rw [decide_eq_false (fun h=>c (congrArg List.length h))]
  simp (disch:=omega) only [slices_Equal_int.f,dt,df,bt,bf,nt,nf,Za,Zy,Zx,Zt,Zf,Zn,Zz,Zi,Zo,wr,AV.toB,AV.toI,AV.toS,if_true]
/-! ### The only value of a mask -/
def ovFrom (m:Int):Int→Nat→Int
 | _,0=>0
 | v,j + 1=>if m=pw v then v else ovFrom m (v + 1) j
def oneOf (m:Int):Int:=if (maskVals m).length=1 then (maskVals m).headD 0 else 0
theorem tab_ov:∀ a:Nat,a < 16→ovFrom ((2 * a:Nat):Int) 1 4=oneOf ((2 * a:Nat):Int):=by decide +kernel
theorem ov_one {n m:Int} (hm:maskOk n m=true):ovFrom m 1 4=oneOf m:=by
 obtain ⟨h1,h2⟩:=maskOk_iff.1 hm
 have ht:=topMask_le n
 obtain ⟨a,ha,ha16⟩:∃ a:Nat,m=((2 * a:Nat):Int)∧a < 16:=⟨(m / 2).toNat,by rw [Int.tmod_eq_emod_of_nonneg h1.1] at h2; omega,by omega⟩
 rw [ha]; exact tab_ov a ha16
theorem onlyValue_l0 (rec:Rec) (k:Nat) {m:Int} {H:Hp}:∀ (j fuel:Nat) (v:Int),v + j=5→1 ≤ v→j < fuel→impl_onlyValue.l0 rec k fuel m v H=some (.int .i64 (ovFrom m v j),H):=by
 intro j
 induction j with
 | zero=>
  intro fuel v hv h1 hf
  obtain ⟨fuel,rfl⟩:=Zs fuel (by omega)
  simp (disch:=omega) only [impl_onlyValue.l0,dt,df,bt,bf,nt,nf,Za,Zy,Zx,Zt,Zf,Zn,Zz,Zi,Zo,wr,AV.toB,AV.toI,AV.toS,if_true,ovFrom]
 | succ j ih=>
  intro fuel v hv h1 hf
  obtain ⟨fuel,rfl⟩:=Zs fuel (by omega)
  by_cases c:m=pw v
  ·rw [ovFrom,if_pos c]
   simp (disch:=omega) only [impl_onlyValue.l0,dt,Zt,iN,m_shl (v:=v),bt c]
  ·rw [ovFrom,if_neg c]
   have d1:=ih fuel (v + 1) (by omega) (by omega) (by omega)
   simp (disch:=omega) only [impl_onlyValue.l0,dt,Zt,Zf,iN,m_shl (v:=v),bf c,wr (n:=v + 1),d1]
theorem onlyValue_ok {k:Nat} (hk:2000000 ≤ k) {n m:Int} (hm:maskOk n m=true) (H:Hp):callF PP orc k impl_onlyValue.id [.int .i64 m] H=some (.int .i64 (oneOf m),H):=by
 obtain ⟨k,rfl⟩:=Zs k (by omega)
 rw [impl_onlyValue.call,← ov_one hm]
 exact onlyValue_l0 _ _ 4 k 1 (by omega) (by omega) (by omega)
theorem oneOf_single {n m:Int} (hm:maskOk n m=true):(oneOf m=0 ↔ single m=false)∧(single m=true→maskVals m=[oneOf m]∧1 ≤ oneOf m):=by
 unfold oneOf single
 by_cases c:(maskVals m).length=1
 ·obtain ⟨x,ex⟩:=List.length_eq_one_iff.1 c
  have hx:=maskVals_mem (m:=m) (x:=x) (by rw [ex]; simp)
  rw [if_pos c,ex]
  simp only [List.headD_cons,List.length_singleton,beq_self_eq_true]
  exact ⟨⟨fun h=>by omega,fun h=>by cases h⟩,fun _=>⟨trivial,hx.1⟩⟩
 ·rw [if_neg c]
  have:((maskVals m).length == 1)=false:=by simpa using c
  rw [this]
  exact ⟨⟨fun _=>rfl,fun _=>rfl⟩,fun h=>by cases h⟩
/-! ### How many values -/
theorem total_drop {l:List Int} {i:Nat} (h:i < l.length):total (l.drop i)=cntM (l.getD i 0) + total (l.drop (i + 1)):=by
 rw [List.drop_eq_getElem_cons h,total,List.getD_eq_getElem?_getD,List.getElem?_eq_getElem h]; rfl
def massV (n:Int) (l:List Int):Int:=if masksOk n l=true then (total l:Int) else -1
theorem specCount_l0 {k:Nat} (hk:2000000 ≤ k) {H0:Hp} {ms:Sl} {l:List Int} (hm:Reads .i64 H0 ms l) (hl:l.length ≤ 1000) :
  ∀ (j i fuel:Nat) (H:Hp) (r:Nat),i + j=l.length→j < fuel→H0 <+: H→r ≤ 4 * i→∃ H',spec_MasksCount.l0 (callF PP orc k) k fuel ms (r:Int) i H=some (.int .i64 ((r + total (l.drop i):Nat):Int),H')∧H0 <+: H':=by
 have hml:=hm.len
 intro j
 induction j with
 | zero=>
  intro i fuel H r hi hf hp hr
  obtain ⟨fuel,rfl⟩:=Zs fuel (by omega)
  rw [List.drop_eq_nil_of_le (by omega)]
  refine ⟨H,?_,hp⟩
  simp (disch:=omega) only [spec_MasksCount.l0,spec_MasksCount.j1,dt,df,bt,bf,nt,nf,Za,Zy,Zx,Zt,Zf,Zn,Zz,Zi,Zo,wr,AV.toB,AV.toI,AV.toS,if_true,total,Nat.add_zero]
 | succ j ih=>
  intro i fuel H r hi hf hp hr
  obtain ⟨fuel,rfl⟩:=Zs fuel (by omega)
  have hi2:i < l.length:=by omega
  obtain ⟨u,H1,a1,a2,a3⟩:=MaskValues_ok hk (l.getD i 0) H
  have hul:=(own_reads a3).len
  have h4:=cntM_le (l.getD i 0)
  have hul':(u.len:Int)=(cntM (l.getD i 0):Int):=by rw [hul]; rfl
  obtain ⟨H',b1,b2⟩:=ih (i + 1) fuel H1 (r + cntM (l.getD i 0)) (by omega) (by omega) (hp.trans a2) (by omega)
  push_cast at b1
  refine ⟨H',?_,b2⟩
  rw [total_drop hi2]
  simp (disch:=omega) only [spec_MasksCount.l0,dt,df,bt,bf,nt,nf,Za,Zy,Zx,Zt,Zf,Zn,Zz,Zi,Zo,wr,AV.toB,AV.toI,AV.toS,if_true,rdn (pf_reads hp hm),a1,hul',wr (n:=(r:Int) + (cntM (l.getD i 0):Int)),b1]
  congr 4
  omega
theorem specMasksCount_ok {k:Nat} (hk:2000010 ≤ k) {H:Hp} {ms:Sl} {l:List Int} {n:Int} (hb:-1 ≤ n∧n ≤ 5) (hm:Reads .i64 H ms l) (hl:l.length ≤ 1000) :
  ∃ H',callF PP orc k spec_MasksCount.id [.sl 1 ms,.int .i64 n] H=some (.int .i64 (massV n l),H')∧H <+: H':=by
 obtain ⟨k,rfl⟩:=Zs k (by omega)
 rw [spec_MasksCount.call]
 have h1:=specMasksValid_any (show 2000000 ≤ k by omega) hb hm hl
 unfold massV
 cases e1:masksOk n l with
 | false=>
  rw [e1] at h1
  exact ⟨H,by simp only [spec_MasksCount.f,dt,df,bt,bf,nt,nf,Za,Zy,Zx,Zt,Zf,Zn,Zz,Zi,Zo,wr,AV.toB,AV.toI,AV.toS,if_true,h1,Bool.false_eq_true,if_false],(List.prefix_refl _)⟩
 | true=>
  rw [e1] at h1
  obtain ⟨H',b1,b2⟩:=specCount_l0 (show 2000000 ≤ k by omega) hm hl l.length 0 k H 0 (by omega) (by omega) (List.prefix_refl _) (by omega)
  rw [List.drop_zero,Nat.zero_add] at b1
  refine ⟨H',?_,b2⟩
  simp only [Int.natCast_zero] at b1
  simp only [spec_MasksCount.f,dt,df,bt,bf,nt,nf,Za,Zy,Zx,Zt,Zf,Zn,Zz,Zi,Zo,wr,AV.toB,AV.toI,AV.toS,if_true,h1,b1]
theorem implCount_l0 {k:Nat} (hk:2000000 ≤ k) {H:Hp} {ms:Sl} {l:List Int} {n:Int} (hm:Reads .i64 H ms l) (hv:masksOk n l=true) :
  ∀ (j i fuel:Nat) (r:Nat),i + j=l.length→j < fuel→r ≤ 4 * i→impl_MasksCount.l0 (callF PP orc k) k fuel (r:Int) ms (l.length:Int) i H=some (.int .i64 ((r + total (l.drop i):Nat):Int),H):=by
 have hml:=hm.len
 have hl:=masks_len hv
 intro j
 induction j with
 | zero=>
  intro i fuel r hi hf hr
  obtain ⟨fuel,rfl⟩:=Zs fuel (by omega)
  rw [List.drop_eq_nil_of_le (by omega)]
  simp (disch:=omega) only [impl_MasksCount.l0,impl_MasksCount.j1,dt,df,bt,bf,nt,nf,Za,Zy,Zx,Zt,Zf,Zn,Zz,Zi,Zo,wr,AV.toB,AV.toI,AV.toS,if_true,total,Nat.add_zero]
 | succ j ih=>
  intro i fuel r hi hf hr
  obtain ⟨fuel,rfl⟩:=Zs fuel (by omega)
  have hi2:i < l.length:=by omega
  have h1:=OnesCount_ok (show 2 ≤ k by omega) (masks_at hv hi2) H
  have h4:=cntM_le (l.getD i 0)
  have b1:=ih (i + 1) fuel (r + cntM (l.getD i 0)) (by omega) (by omega) (by omega)
  push_cast at b1
  rw [total_drop hi2]
  simp (disch:=omega) only [impl_MasksCount.l0,dt,df,bt,bf,nt,nf,Za,Zy,Zx,Zt,Zf,Zn,Zz,Zi,Zo,wr,AV.toB,AV.toI,AV.toS,if_true,rdn hm,h1,wr (n:=(r:Int) + (cntM (l.getD i 0):Int)),b1]
  congr 4
  omega
theorem implMasksCount_ok {k:Nat} (hk:2000010 ≤ k) {H:Hp} {ms:Sl} {l:List Int} {n:Int} (hb:-1 ≤ n∧n ≤ 5) (hm:Reads .i64 H ms l) (hl:l.length ≤ 1000) (hr:∀ m ∈ l,-2 ≤ m∧m ≤ 63) :
  callF PP orc k impl_MasksCount.id [.sl 1 ms,.int .i64 n] H=some (.int .i64 (massV n l),H):=by
 obtain ⟨k,rfl⟩:=Zs k (by omega)
 rw [impl_MasksCount.call]
 have h1:=implMasksValid_ok (show 2000000 ≤ k by omega) hb hm hl hr
 have hml:=hm.len
 unfold massV
 cases e1:masksOk n l with
 | false=>
  rw [e1] at h1
  simp only [impl_MasksCount.f,dt,df,bt,bf,nt,nf,Za,Zy,Zx,Zt,Zf,Zn,Zz,Zi,Zo,wr,AV.toB,AV.toI,AV.toS,if_true,h1,Bool.false_eq_true,if_false]
 | true=>
  rw [e1] at h1
  have b1:=implCount_l0 (show 2000000 ≤ k by omega) hm e1 l.length 0 k 0 (by omega) (by omega) (by omega)
  rw [List.drop_zero,Nat.zero_add] at b1
  simp only [Int.natCast_zero] at b1
  simp only [impl_MasksCount.f,dt,df,bt,bf,nt,nf,Za,Zy,Zx,Zt,Zf,Zn,Zz,Zi,Zo,wr,AV.toB,AV.toI,AV.toS,if_true,h1,hml,b1]
theorem l6Copy_ok {k:Nat} (hk:1 ≤ k) {H:Hp} {s:Sl} {l:List Int} (hs:Reads .i64 H s l) (hl:l.length ≤ 1000) :
  callF PP orc k spec_l6Copy.id [.sl 1 s] H=some (.sl 1 (Sl.mk false H.length 0 l.length),H ++ [some (Blk.mk false (l.map (.int .i64)))]):=by
 obtain ⟨k,rfl⟩:=Zs k (by omega)
 rw [spec_l6Copy.call]
 simp only [spec_l6Copy.f,read_ok hs,hs.len,appl_ok _ _ _ (show l.length ≤ 1000000 by omega),Zo,cells_ok,Za,Zt]
theorem Start_l0 {k:Nat} (hk:2000003 ≤ k) {H0:Hp} {n:Int} {gs s:Sl} {given:List Int} {rs:List R} (hz:PuzAt H0 n gs s given rs) (hv:puzzleV n given (rs.map R.val)=true) :
  ∀ (j i fuel:Nat) (H:Hp) (t:Sl),i + j=given.length→j < fuel→H0 <+: H→Own 1 H0 H t ((openOf n (given.take i)).map (.int .i64)) →
   ∃ t' H',spec_StartMasks.l0 (callF PP orc k) k fuel t i n gs s H=some (.sl 1 t',H')∧H0 <+: H'∧Own 1 H0 H' t' ((openOf n given).map (.int .i64)):=by
 have hg:=(puzzleV_iff hv).1
 obtain ⟨hn,g2,g3⟩:=(gridOk_iff given n).1 hg
 have h16:=gridOk_len hg
 have hgl:=hz.rg.len
 obtain ⟨p1,p2,p3⟩:=topMask_pw hn
 intro j
 induction j with
 | zero=>
  intro i fuel H t hi hf hp ho
  obtain ⟨fuel,rfl⟩:=Zs fuel (by omega)
  refine ⟨t,H,?_,hp,by rw [List.take_of_length_le (by omega)] at ho; exact ho⟩
  simp (disch:=omega) only [spec_StartMasks.l0,spec_StartMasks.j1,spec_StartMasks.j3,dt,df,bt,bf,nt,nf,Za,Zy,Zx,Zt,Zf,Zn,Zz,Zi,Zo,wr,AV.toB,AV.toI,AV.toS,if_true]
 | succ j ih=>
  intro i fuel H t hi hf hp ho
  obtain ⟨fuel,rfl⟩:=Zs fuel (by omega)
  have hi2:i < given.length:=by omega
  obtain ⟨v0,v1⟩:=g3 _ (mem_getD hi2)
  have hzH:=hz.pf hp
  have h1:=specPuzzleValid_ok (show 2000003 ≤ k by omega) hzH.n4 hzH.rg hzH.gl hzH.rr hzH.rl hzH.rc
  rw [puzzle_map,hv] at h1
  have htl:t.len=i:=by have:=ho.len; simp [openOf] at this; omega
  have htk:openOf n (given.take (i + 1))=openOf n (given.take i) ++ [if given.getD i 0 > 0 then pw (given.getD i 0) else topMask n]:=by
   rw [List.take_succ_eq_append_getElem hi2]; unfold openOf
   rw [List.map_append,List.getD_eq_getElem?_getD,List.getElem?_eq_getElem hi2]; rfl
  obtain ⟨H1,a1,a2,a3,a4,a5⟩:=own_app1 ho hp (if given.getD i 0 > 0 then pw (given.getD i 0) else topMask n) (by omega)
  rw [← htk] at a3
  obtain ⟨t',H',b1,b2,b3⟩:=ih (i + 1) fuel H1 _ (by omega) (by omega) a2 a3
  push_cast at b1
  refine ⟨t',H',?_,b2,b3⟩
  by_cases c:given.getD i 0 > 0
  ·rw [ip c] at a1
   simp (disch:=omega) only [spec_StartMasks.l0,spec_StartMasks.j1,spec_StartMasks.j2,spec_StartMasks.j4,dt,df,bt,bf,nt,nf,Za,Zy,Zx,Zt,Zf,Zn,Zz,Zi,Zo,wr,AV.toB,AV.toI,AV.toS,if_true,h1,rdn hzH.rg,iN,m_shl v0,a1,b1]
  ·rw [iN c] at a1
   simp (disch:=omega) only [spec_StartMasks.l0,spec_StartMasks.j1,spec_StartMasks.j2,spec_StartMasks.j4,dt,df,bt,bf,nt,nf,Za,Zy,Zx,Zt,Zf,Zn,Zz,Zi,Zo,wr,AV.toB,AV.toI,AV.toS,if_true,h1,rdn hzH.rg,iN,m_shl (v:=n + 1),p1,a1,b1]
theorem specStartMasks_ok {k:Nat} (hk:2000010 ≤ k) {H:Hp} {n:Int} {gs s:Sl} {given:List Int} {rs:List R} (hz:PuzAt H n gs s given rs) :
  ∃ t H',callF PP orc k spec_StartMasks.id [.agg [.int .i64 n,.sl 1 gs,.sl 3 s]] H=some (.sl 1 t,H')∧H <+: H'∧Own 1 H H' t ((startV n given (rs.map R.val)).map (.int .i64)):=by
 obtain ⟨k,rfl⟩:=Zs k (by omega)
 rw [spec_StartMasks.call]
 have hgl:=hz.rg.len
 have hgz:=hz.gl
 unfold startV
 cases hv:puzzleV n given (rs.map R.val) with
 | true=>
  rw [ip rfl]
  obtain ⟨t',H',b1,b2,b3⟩:=Start_l0 (show 2000003 ≤ k by omega) hz hv given.length 0 k (H ++ [some (Blk.mk false [])]) (Sl.mk false H.length 0 0) (by omega) (by omega) (List.prefix_append _ _) (own_new 1 H [] 0 rfl)
  exact ⟨t',H',b1,b2,b3⟩
 | false=>
  rw [iN (by simp)]
  refine ⟨Sl.mk false H.length 0 0,H ++ [some (Blk.mk false [])],?_,(List.prefix_append _ _),own_new 1 H [] 0 rfl⟩
  have hzH:=hz.pf (List.prefix_append H [some (Blk.mk false [])])
  have h1:=specPuzzleValid_ok (show 2000003 ≤ k by omega) hzH.n4 hzH.rg hzH.gl hzH.rr hzH.rl hzH.rc
  rw [puzzle_map,hv] at h1
  have hf:spec_StartMasks.f (callF PP orc k) k n gs s H=spec_StartMasks.l0 (callF PP orc k) k k (Sl.mk false H.length 0 0) 0 n gs s (H ++ [some (Blk.mk false [])]):=rfl
  rw [hf]
  generalize callF PP orc k=rc at *
  obtain ⟨q,hq⟩:∃ q,k=q + 1:=⟨k - 1,by omega⟩
  rw [hq]
  by_cases c:0 < given.length
  ·simp (disch:=omega) only [spec_StartMasks.l0,spec_StartMasks.j1,spec_StartMasks.j3,dt,df,bt,bf,nt,nf,Za,Zy,Zx,Zt,Zf,Zn,Zz,Zi,Zo,wr,AV.toB,AV.toI,AV.toS,if_true,h1]
  ·simp (disch:=omega) only [spec_StartMasks.l0,spec_StartMasks.j1,spec_StartMasks.j3,dt,df,bt,bf,nt,nf,Za,Zy,Zx,Zt,Zf,Zn,Zz,Zi,Zo,wr,AV.toB,AV.toI,AV.toS,if_true]
theorem tdivN (a b:Nat):((a:Int)).tdiv (b:Int)=((a / b:Nat):Int):=rfl
theorem tmodN (a b:Nat):((a:Int)).tmod (b:Int)=((a % b:Nat):Int):=rfl
theorem wdiv {a:Nat} (N:Nat) (h:a ≤ 1000):IntKind.i64.wrap ((a / N:Nat):Int)=((a / N:Nat):Int):=by
 have:=Nat.div_le_self a N
 generalize a / N=z at *
 exact wr (by omega) (by omega)
theorem ncb {a b:Nat}:(((a:Nat):Int) == ((b:Nat):Int))=(a == b):=by rw [Bool.eq_iff_iff]; simp; omega
theorem Singles_l2 (rec:Rec) (k:Nat) (L0:Sl→Int→Sl→Int→Hp→An) {H0:Hp} {ms t:Sl} {l:List Int} {N:Nat} (hN:0 < N) (hm:Reads .i64 H0 ms l) (hl:l.length ≤ 100) {i:Nat} (hi:i < l.length) (hM:Ms l) :
  ∀ (j q fuel:Nat) (H:Hp) (a:List Int) (P:Nat→Nat→Prop),q + j=l.length→j < fuel→H0 <+: H→Own 1 H0 H t (a.map (.int .i64))→Sub l a P →
   ∃ H' a',spec_NarrowSingles.l2 rec k L0 fuel ms (N:Int) t i q H=L0 ms (N:Int) t ((i:Int) + 1) H'∧H0 <+: H'∧Own 1 H0 H' t (a'.map (.int .i64))∧Sub l a' (fun x v=>P x v ∨ (q ≤ x∧peer N x i∧Rp.has (l.getD i 0) v=true)):=by
 have hml:=hm.len
 have hiM:=hM.at i
 intro j
 induction j with
 | zero=>
  intro q fuel H a P hq hf hp ho hs
  obtain ⟨fuel,rfl⟩:=Zs fuel (by omega)
  refine ⟨H,a,?_,hp,ho,hs.congr fun x v hx=>⟨.inl,by rintro (h | ⟨h,_⟩); exact h; omega⟩⟩
  simp (disch:=omega) only [spec_NarrowSingles.l2,spec_NarrowSingles.j1,dt,df,bt,bf,nt,nf,Za,Zy,Zx,Zt,Zf,Zn,Zz,Zi,Zo,wr,AV.toB,AV.toI,AV.toS,if_true]
 | succ j ih=>
  intro q fuel H a P hq hf hp ho hs
  obtain ⟨fuel,rfl⟩:=Zs fuel (by omega)
  have hal:=hs.len
  have htl:t.len=a.length:=by have:=ho.len; simpa using this
  have hq2:q < l.length:=by omega
  have hrd:=pf_reads hp hm
  have d1:=Nat.div_le_self q N
  have d2:=Nat.div_le_self i N
  have go:∀ c:Bool,(c=true ↔ peer N q i)→∃ H' a',spec_NarrowSingles.j4 rec k L0 (spec_NarrowSingles.l2 rec k L0 fuel) ms (N:Int) t i q c H=L0 ms (N:Int) t ((i:Int) + 1) H'∧H0 <+: H'∧Own 1 H0 H' t (a'.map (.int .i64))∧Sub l a' (fun x v=>P x v ∨ (q ≤ x∧peer N x i∧Rp.has (l.getD i 0) v=true)):=by
   intro c hc
   cases c with
   | true=>
    have hpq:=hc.1 rfl
    obtain ⟨H1,a1,a2,a3,a4⟩:=own_set1 ho hp q (by omega) (mSub (a.getD q 0) (l.getD i 0))
    obtain ⟨H',a',b1,b2,b3,b4⟩:=ih (q + 1) fuel H1 _ _ (by omega) (by omega) a2 a3 (hs.step q hq2 hiM)
    push_cast at b1
    refine ⟨H',a',?_,b2,b3,b4.congr fun x v hx=>?_⟩
    ·simp (disch:=omega) only [spec_NarrowSingles.j4,spec_NarrowSingles.j5,dt,df,bt,bf,nt,nf,Za,Zy,Zx,Zt,Zf,Zn,Zz,Zi,Zo,wr,AV.toB,AV.toI,AV.toS,if_true,rdn (own_reads ho),rdn hrd,m_sub (hs.ms.at q) hiM,a1,b1]
    ·constructor
     ·rintro ((h | ⟨h1,h2⟩) | ⟨h1,h2⟩)
      ·exact .inl h
      ·subst h1; exact .inr ⟨Nat.le_refl _,hpq,h2⟩
      ·exact .inr ⟨by omega,h2⟩
     ·rintro (h | ⟨h1,h2,h3⟩)
      ·exact .inl (.inl h)
      ·by_cases e:x=q
       ·exact .inl (.inr ⟨e,h3⟩)
       ·exact .inr ⟨by omega,h2,h3⟩
   | false=>
    have hpq:¬ peer N q i:=fun h=>by have:=hc.2 h; cases this
    obtain ⟨H',a',b1,b2,b3,b4⟩:=ih (q + 1) fuel H a P (by omega) (by omega) hp ho hs
    push_cast at b1
    refine ⟨H',a',?_,b2,b3,b4.congr fun x v hx=>?_⟩
    ·simp (disch:=omega) only [spec_NarrowSingles.j4,spec_NarrowSingles.j5,dt,df,bt,bf,nt,nf,Za,Zy,Zx,Zt,Zf,Zn,Zz,Zi,Zo,wr,AV.toB,AV.toI,AV.toS,if_true,b1]
    ·constructor
     ·rintro (h | ⟨h1,h2⟩)
      ·exact .inl h
      ·exact .inr ⟨by omega,h2⟩
     ·rintro (h | ⟨h1,h2,h3⟩)
      ·exact .inl h
      ·refine .inr ⟨?_,h2,h3⟩
       by_cases e:x=q
       ·subst e; exact absurd h2 hpq
       ·omega
  by_cases e:q=i
  ·obtain ⟨H',a',b1,b2⟩:=go false ⟨fun h=>(by cases h),fun h=>absurd e h.1⟩
   refine ⟨H',a',?_,b2⟩
   rw [← b1]
   simp (disch:=omega) only [spec_NarrowSingles.l2,dt,df,bt,bf,nt,nf,Za,Zy,Zx,Zt,Zf,Zn,Zz,Zi,Zo,wr,AV.toB,AV.toI,AV.toS,if_true]
  ·by_cases e1:q / N=i / N
   ·obtain ⟨H',a',b1,b2⟩:=go true ⟨fun _=>⟨e,.inl e1⟩,fun _=>rfl⟩
    refine ⟨H',a',?_,b2⟩
    rw [← b1]
    have hb:(q / N == i / N)=true:=by simpa using e1
    simp (disch:=omega) only [spec_NarrowSingles.l2,dt,nt,Zt,iN,tdivN,wdiv,ncb,hb]
   ·obtain ⟨H',a',b1,b2⟩:=go (((q:Int)).tmod (N:Int) == ((i:Int)).tmod (N:Int)) (by
     rw [tmodN,tmodN,beq_iff_eq]
     constructor
     ·intro h; exact ⟨e,.inr (by omega)⟩
     ·rintro ⟨_,h | h⟩
      ·exact absurd h e1
      ·omega)
    refine ⟨H',a',?_,b2⟩
    rw [← b1]
    have hb:(q / N == i / N)=false:=by simpa using e1
    simp (disch:=omega) only [spec_NarrowSingles.l2,dt,nt,Zt,Zf,iN,tdivN,wdiv,ncb,hb]
theorem Singles_l0 {k:Nat} (hk:2000000 ≤ k) {H0:Hp} {ms t:Sl} {l:List Int} {N:Nat} (hN:0 < N) (hm:Reads .i64 H0 ms l) (hl:l.length ≤ 100) (hM:Ms l) :
  ∀ (j i fuel:Nat) (H:Hp) (a:List Int) (P:Nat→Nat→Prop),i + j=l.length→j < fuel→H0 <+: H→Own 1 H0 H t (a.map (.int .i64))→Sub l a P →
   ∃ H' a',spec_NarrowSingles.l0 (callF PP orc k) k fuel ms (N:Int) t i H=some (.sl 1 t,H')∧H0 <+: H'∧Own 1 H0 H' t (a'.map (.int .i64))∧Sub l a' (fun x v=>P x v ∨ ∃ q,i ≤ q∧q < l.length∧peer N x q∧single (l.getD q 0)=true∧Rp.has (l.getD q 0) v=true):=by
 have hml:=hm.len
 intro j
 induction j with
 | zero=>
  intro i fuel H a P hi hf hp ho hs
  obtain ⟨fuel,rfl⟩:=Zs fuel (by omega)
  refine ⟨H,a,?_,hp,ho,hs.congr fun x v hx=>⟨.inl,by rintro (h | ⟨q,h1,h2,_⟩); exact h; omega⟩⟩
  simp (disch:=omega) only [spec_NarrowSingles.l0,spec_NarrowSingles.j3,dt,df,bt,bf,nt,nf,Za,Zy,Zx,Zt,Zf,Zn,Zz,Zi,Zo,wr,AV.toB,AV.toI,AV.toS,if_true]
 | succ j ih=>
  intro i fuel H a P hi hf hp ho hs
  obtain ⟨fuel,rfl⟩:=Zs fuel (by omega)
  have hi2:i < l.length:=by omega
  have hrd:=pf_reads hp hm
  obtain ⟨u,H1,a1,a2,a3⟩:=MaskValues_ok hk (l.getD i 0) H
  have hul:=(own_reads a3).len
  by_cases c:(maskVals (l.getD i 0)).length=1
  ·obtain ⟨H2,a',b1,b2,b3,b4⟩:=Singles_l2 (callF PP orc k) k (spec_NarrowSingles.l0 (callF PP orc k) k fuel) hN hm hl hi2 hM l.length 0 k H1 a P (by omega) (by omega) (hp.trans a2) (own_pf ho a2) hs
   obtain ⟨H',a'',d1,d2,d3,d4⟩:=ih (i + 1) fuel H2 a' _ (by omega) (by omega) b2 b3 b4
   push_cast at d1
   refine ⟨H',a'',?_,d2,d3,d4.congr fun x v hx=>?_⟩
   ·simp only [Int.natCast_zero] at b1
    simp (disch:=omega) only [spec_NarrowSingles.l0,dt,df,bt,bf,nt,nf,Za,Zy,Zx,Zt,Zf,Zn,Zz,Zi,Zo,wr,AV.toB,AV.toI,AV.toS,if_true,rdn hrd,a1,hul,b1,d1]
   ·have hs1:single (l.getD i 0)=true:=by unfold single; rw [c]; rfl
    constructor
    ·rintro ((h | ⟨_,h2,h3⟩) | ⟨q,h1,h2⟩)
     ·exact .inl h
     ·exact .inr ⟨i,Nat.le_refl _,hi2,h2,hs1,h3⟩
     ·exact .inr ⟨q,by omega,h2⟩
    ·rintro (h | ⟨q,h1,h2,h3,h4,h5⟩)
     ·exact .inl (.inl h)
     ·by_cases e:q=i
      ·subst e; exact .inl (.inr ⟨by omega,h3,h5⟩)
      ·exact .inr ⟨q,by omega,h2,h3,h4,h5⟩
  ·obtain ⟨H',a'',d1,d2,d3,d4⟩:=ih (i + 1) fuel H1 a P (by omega) (by omega) (hp.trans a2) (own_pf ho a2) hs
   push_cast at d1
   refine ⟨H',a'',?_,d2,d3,d4.congr fun x v hx=>?_⟩
   ·simp (disch:=omega) only [spec_NarrowSingles.l0,spec_NarrowSingles.j1,dt,df,bt,bf,nt,nf,Za,Zy,Zx,Zt,Zf,Zn,Zz,Zi,Zo,wr,AV.toB,AV.toI,AV.toS,if_true,rdn hrd,a1,hul,d1]
   ·have hs1:¬ single (l.getD i 0)=true:=by unfold single; rw [beq_iff_eq]; exact c
    constructor
    ·rintro (h | ⟨q,h1,h2⟩)
     ·exact .inl h
     ·exact .inr ⟨q,by omega,h2⟩
    ·rintro (h | ⟨q,h1,h2,h3,h4,h5⟩)
     ·exact .inl h
     ·refine .inr ⟨q,?_,h2,h3,h4,h5⟩
      by_cases e:q=i
      ·subst e; exact absurd h4 hs1
      ·omega
theorem specNarrowSingles_ok {k:Nat} (hk:2000010 ≤ k) {H:Hp} {ms:Sl} {l:List Int} {n:Int} (hb:-1 ≤ n∧n ≤ 5) (hm:Reads .i64 H ms l) (hl:l.length ≤ 1000) :
  ∃ t H',callF PP orc k spec_NarrowSingles.id [.sl 1 ms,.int .i64 n] H=some (.sl 1 t,H')∧H <+: H'∧Own 1 H H' t ((singlesV n l).map (.int .i64)):=by
 obtain ⟨k,rfl⟩:=Zs k (by omega)
 rw [spec_NarrowSingles.call]
 have h1:=specMasksValid_any (show 2000000 ≤ k by omega) hb hm hl
 unfold singlesV
 cases hv:masksOk n l with
 | false=>
  rw [hv] at h1
  rw [iN (by simp)]
  exact ⟨Sl.mk false H.length 0 0,H ++ [some (Blk.mk false [])],by simp only [spec_NarrowSingles.f,dt,df,bt,bf,nt,nf,Za,Zy,Zx,Zt,Zf,Zn,Zz,Zi,Zo,wr,AV.toB,AV.toI,AV.toS,if_true,h1],(List.prefix_append _ _),own_new 1 H [] 0 rfl⟩
 | true=>
  rw [hv] at h1
  rw [ip rfl]
  obtain ⟨l4,l16,lN,hN,n2,n4⟩:=masks_len hv
  have hM:=masks_M hv
  have h2:=l6Copy_ok (show 1 ≤ k by omega) hm hl
  have hnew:=own_new 1 H (l.map (.int .i64)) l.length (by simp)
  obtain ⟨H',a',b1,b2,b3,b4⟩:=Singles_l0 (show 2000000 ≤ k by omega) (N:=n.toNat) (by omega) hm (by omega) hM l.length 0 k (H ++ [some (Blk.mk false (l.map (.int .i64)))]) l _ (by omega) (by omega) (List.prefix_append _ _) hnew (Sub.refl hM)
  rw [← hN] at b1
  have e:a'=subAll l (PS n.toNat l):=(b4.congr fun x v hx=>(show _ ↔ PS n.toNat l x v from ⟨by rintro (h | ⟨q,_,h⟩); exact h.elim; exact ⟨q,h⟩,fun ⟨q,h⟩=>.inr ⟨q,by omega,h⟩⟩)).eq hM
  subst e
  refine ⟨_,H',?_,b2,b3⟩
  simp only [Int.natCast_zero] at b1
  simp only [spec_NarrowSingles.f,dt,df,bt,bf,nt,nf,Za,Zy,Zx,Zt,Zf,Zn,Zz,Zi,Zo,wr,AV.toB,AV.toI,AV.toS,if_true,h1,h2,b1]
theorem reads_from {k:IntKind} {H:Hp} {s:Sl} {l:List Int} (h:Reads k H s l) (m:Nat) (hm:m ≤ l.length):Reads k H (Sl.mk s.nil s.blk (s.off + m) (l.length - m)) (l.drop m):=by
 refine ⟨by simp,fun i hi=>?_⟩
 have hi2:m + i < l.length:=by simp at hi; omega
 have:=h.cell (m + i) hi2
 have e:(l.drop m)[i]=l[m + i]:=by simp
 rw [e,← this]
 show H.cell s.blk (s.off + m + i)=_
 rw [Nat.add_assoc]
theorem Hidden_l3 (rec:Rec) (k:Nat) (L0:Sl→Int→Sl→Int→Hp→An) (L1:Sl→Int→Sl→Int→Sl→Int→Hp→An) {H:Hp} {ms t cs:Sl} {l cells:List Int} {n line:Int} {v:Nat} (hm:Reads .i64 H ms l) (hc:Reads .i64 H cs cells) (hcl:cells.length ≤ 10) (hin:∀ c ∈ cells,0 ≤ c∧c.toNat < l.length∧c < (l.length:Int)) (hM:Ms l) (hv:1 ≤ v∧v ≤ 4) :
  ∀ (j q fuel:Nat) (many at':Int),q + j=cells.length→j < fuel→0 ≤ many→many ≤ q →
   ∃ at2,spec_NarrowHidden.l3 rec k L0 L1 fuel ms n t line cs v many at' q H=spec_NarrowHidden.j6 rec k L0 L1 ms n t line cs v (many + ((cells.drop q).filter fun c=>has (l.getD c.toNat 0) v).length) at2 H∧(∀ c,many=0→(cells.drop q).filter (fun c=>has (l.getD c.toNat 0) v)=[c]→at2=c)∧((cells.drop q).filter (fun c=>has (l.getD c.toNat 0) v)=[]→at2=at'):=by
 have hml:=hm.len
 have hcs:=hc.len
 intro j
 induction j with
 | zero=>
  intro q fuel many at' hq hf h0 h1
  obtain ⟨fuel,rfl⟩:=Zs fuel (by omega)
  rw [List.drop_eq_nil_of_le (by omega)]
  refine ⟨at',?_,fun c _ h=>(by cases h),fun _=>rfl⟩
  simp (disch:=omega) only [spec_NarrowHidden.l3,dt,df,bt,bf,nt,nf,Za,Zy,Zx,Zt,Zf,Zn,Zz,Zi,Zo,wr,AV.toB,AV.toI,AV.toS,if_true,List.filter_nil,Zm,Int.natCast_zero,Int.add_zero]
 | succ j ih=>
  intro q fuel many at' hq hf h0 h1
  obtain ⟨fuel,rfl⟩:=Zs fuel (by omega)
  have hq2:q < cells.length:=by omega
  obtain ⟨c0,c1,c2⟩:=hin _ (mem_getD hq2)
  have hd:cells.drop q=cells.getD q 0 :: cells.drop (q + 1):=by
   rw [List.drop_eq_getElem_cons hq2,List.getD_eq_getElem?_getD,List.getElem?_eq_getElem hq2]; rfl
  rw [hd,List.filter_cons]
  have hb:=m_bit (v:=(v:Int)) (hM.at (cells.getD q 0).toNat) (by omega) (by omega)
  rw [Int.toNat_natCast] at hb
  cases hh:has (l.getD (cells.getD q 0).toNat 0) v with
  | true=>
   rw [hh] at hb
   obtain ⟨at2,a1,a2,a3⟩:=ih (q + 1) fuel (many + 1) (cells.getD q 0) (by omega) (by omega) (by omega) (by omega)
   push_cast at a1
   rw [if_pos rfl,List.length_cons]
   refine ⟨at2,?_,fun c hm0 he=>?_,fun h=>by cases h⟩
   ·push_cast
    rw [show many + ((((cells.drop (q + 1)).filter fun c=>has (l.getD c.toNat 0) v).length:Int) + 1)=many + 1 + (((cells.drop (q + 1)).filter fun c=>has (l.getD c.toNat 0) v).length:Int) by omega,← a1]
    simp (disch:=omega) only [spec_NarrowHidden.l3,spec_NarrowHidden.j5,dt,df,Za,Zt,Zn,Zo,rdn hc,rdn hm,iN,hb,wr]
   ·rw [List.cons.injEq] at he
    rw [a3 he.2]; exact he.1
  | false=>
   rw [hh] at hb
   obtain ⟨at2,a1,a2,a3⟩:=ih (q + 1) fuel many at' (by omega) (by omega) h0 (by omega)
   push_cast at a1
   rw [if_neg (by simp)]
   refine ⟨at2,?_,a2,a3⟩
   rw [← a1]
   simp (disch:=omega) only [spec_NarrowHidden.l3,spec_NarrowHidden.j5,dt,df,Za,Zt,Zf,Zn,Zo,rdn hc,rdn hm,iN,hb,wr]
theorem Hidden_l1 (rec:Rec) (k:Nat) (hk:100 ≤ k) (L0:Sl→Int→Sl→Int→Hp→An) {H0:Hp} {ms t cs:Sl} {l:List Int} {n:Int} {line:Nat} (hmk:masksOk n l=true) (hm:Reads .i64 H0 ms l) (hline:(line:Int) < 2 * n) (hcb:cs.blk ≠ t.blk) :
  ∀ (j v fuel:Nat) (H:Hp) (a:List Int) (P:Nat→Nat→Prop),(v:Int) + j=n + 1→1 ≤ v→j < fuel→H0 <+: H→Reads .i64 H cs (lineCells n line)→Own 1 H0 H t (a.map (.int .i64))→Sub l a P →
   ∃ H' a',spec_NarrowHidden.l1 rec k L0 fuel ms n t line cs v H=L0 ms n t ((line:Int) + 1) H'∧H0 <+: H'∧Own 1 H0 H' t (a'.map (.int .i64))∧Sub l a' (fun x w=>P x w ∨ ∃ u:Nat,v ≤ u∧(u:Int) ≤ n∧lineHas n l line u=[(x:Int)]∧w ≠ u):=by
 obtain ⟨l4,l16,lN,hN,n2,n4⟩:=masks_len hmk
 have hM:=masks_M hmk
 have hlc:=lineCells_len n line
 intro j
 induction j with
 | zero=>
  intro v fuel H a P hv hv1 hf hp hc ho hs
  obtain ⟨fuel,rfl⟩:=Zs fuel (by omega)
  refine ⟨H,a,?_,hp,ho,hs.congr fun x w hx=>⟨.inl,by rintro (h | ⟨u,h1,h2,_⟩); exact h; omega⟩⟩
  simp (disch:=omega) only [spec_NarrowHidden.l1,spec_NarrowHidden.j4,dt,df,bt,bf,nt,nf,Za,Zy,Zx,Zt,Zf,Zn,Zz,Zi,Zo,wr,AV.toB,AV.toI,AV.toS,if_true]
 | succ j ih=>
  intro v fuel H a P hv hv1 hf hp hc ho hs
  obtain ⟨fuel,rfl⟩:=Zs fuel (by omega)
  have hal:=hs.len
  have htl:t.len=a.length:=by have:=ho.len; simpa using this
  obtain ⟨at2,b1,b2,b3⟩:=Hidden_l3 rec k L0 (spec_NarrowHidden.l1 rec k L0 fuel) (t:=t) (n:=n) (line:=(line:Int)) (pf_reads hp hm) hc (by omega) (fun c h=>line_in hmk h) hM (v:=v) ⟨hv1,by omega⟩ (lineCells n line).length 0 k 0 0 (by omega) (by omega) (by omega) (by omega)
  simp only [List.drop_zero,Int.natCast_zero,Int.zero_add] at b1 b2
  have hlh:(lineCells n line).filter (fun c=>has (l.getD c.toNat 0) v)=lineHas n l line v:=rfl
  rw [hlh] at b1 b2
  by_cases c:(lineHas n l line v).length=1
  ·obtain ⟨x0,hx0⟩:=List.length_eq_one_iff.1 c
   have hat:=b2 x0 (by first | rfl | trivial) hx0
   have hxm:x0 ∈ lineCells n line:=(List.mem_filter.1 (show x0 ∈ lineHas n l line v by rw [hx0]; simp)).1
   obtain ⟨q0,q1,q2⟩:=line_in hmk hxm
   have hpm:M (pw (v:Int)):=M.pw (by omega) (by omega)
   have h31:M (mSub 31 (pw (v:Int))):=M.sub ⟨by decide,by decide⟩ hpm
   obtain ⟨H1,d1,d2,d3,d4⟩:=own_set1 ho hp x0.toNat (by omega) (mAnd (a.getD x0.toNat 0) (pw (v:Int)))
   have hs1:=hs.step x0.toNat q1 h31
   rw [← and_sub (hs.ms.at _) hpm] at hs1
   obtain ⟨H',a',e1,e2,e3,e4⟩:=ih (v + 1) fuel H1 _ _ (by omega) (by omega) (by omega) d2 (d4.reads hcb hc) d3 hs1
   push_cast at e1
   refine ⟨H',a',?_,e2,e3,e4.congr5 hM fun x w hx hw=>?_⟩
   ·rw [c] at b1
    subst hat
    simp only [Int.natCast_one] at b1
    simp (disch:=omega) only [spec_NarrowHidden.l1,dt,Zt,b1,spec_NarrowHidden.j6,bt,Za,Zo,rdn (own_reads ho),iN,m_shl (v:=(v:Int)),m_and (hs.ms.at _) hpm,d1,spec_NarrowHidden.j7,wr (n:=(v:Int) + 1),e1]
   ·have hnot:Rp.has (mSub 31 (pw (v:Int))) w=true ↔ w ≠ v:=by
     rcases has_all w hw (pw (v:Int)) with e | e
     ·rw [e,has_pw (by omega)]
      simp only [Bool.not_eq_true',decide_eq_false_iff_not]
      constructor <;> (intro h e; apply h; omega)
     ·exact absurd hpm e
    constructor
    ·rintro ((h | ⟨h1,h2⟩) | ⟨u,h1,h2⟩)
     ·exact .inl h
     ·subst h1
      exact .inr ⟨v,Nat.le_refl _,by omega,by rw [hx0]; congr 1; omega,hnot.1 h2⟩
     ·exact .inr ⟨u,by omega,h2⟩
    ·rintro (h | ⟨u,h1,h2,h3,h4⟩)
     ·exact .inl (.inl h)
     ·by_cases e:u=v
      ·subst e
       rw [hx0,List.cons.injEq] at h3
       exact .inl (.inr ⟨by omega,hnot.2 h4⟩)
      ·exact .inr ⟨u,by omega,h2,h3,h4⟩
  ·obtain ⟨H',a',e1,e2,e3,e4⟩:=ih (v + 1) fuel H a P (by omega) (by omega) (by omega) hp hc ho hs
   push_cast at e1
   refine ⟨H',a',?_,e2,e3,e4.congr fun x w hx=>?_⟩
   ·simp (disch:=omega) only [spec_NarrowHidden.l1,dt,Zt,b1,spec_NarrowHidden.j6,bf,Zf,spec_NarrowHidden.j7,wr (n:=(v:Int) + 1),e1]
   ·constructor
    ·rintro (h | ⟨u,h1,h2⟩)
     ·exact .inl h
     ·exact .inr ⟨u,by omega,h2⟩
    ·rintro (h | ⟨u,h1,h2,h3,h4⟩)
     ·exact .inl h
     ·refine .inr ⟨u,?_,h2,h3,h4⟩
      by_cases e:u=v
      ·subst e; rw [h3] at c; exact absurd rfl c
      ·omega
theorem Hidden_l0 {k:Nat} (hk:2000000 ≤ k) {H0:Hp} {ms t:Sl} {l:List Int} {n:Int} (hmk:masksOk n l=true) (hm:Reads .i64 H0 ms l) :
  ∀ (j line fuel:Nat) (H:Hp) (a:List Int) (P:Nat→Nat→Prop),(line:Int) + j=2 * n→j < fuel→H0 <+: H→Own 1 H0 H t (a.map (.int .i64))→Sub l a P →
   ∃ H' a',spec_NarrowHidden.l0 (callF PP orc k) k fuel ms n t line H=some (.sl 1 t,H')∧H0 <+: H'∧Own 1 H0 H' t (a'.map (.int .i64))∧Sub l a' (fun x w=>P x w ∨ ∃ ln u:Nat,line ≤ ln∧(ln:Int) < 2 * n∧1 ≤ u∧(u:Int) ≤ n∧lineHas n l ln u=[(x:Int)]∧w ≠ u):=by
 obtain ⟨l4,l16,lN,hN,n2,n4⟩:=masks_len hmk
 intro j
 induction j with
 | zero=>
  intro line fuel H a P hl hf hp ho hs
  obtain ⟨fuel,rfl⟩:=Zs fuel (by omega)
  refine ⟨H,a,?_,hp,ho,hs.congr fun x w hx=>⟨.inl,by rintro (h | ⟨ln,u,h1,h2,_⟩); exact h; omega⟩⟩
  simp (disch:=omega) only [spec_NarrowHidden.l0,spec_NarrowHidden.j2,dt,df,bt,bf,nt,nf,Za,Zy,Zx,Zt,Zf,Zn,Zz,Zi,Zo,wr,AV.toB,AV.toI,AV.toS,if_true]
 | succ j ih=>
  intro line fuel H a P hl hf hp ho hs
  obtain ⟨fuel,rfl⟩:=Zs fuel (by omega)
  obtain ⟨cs,H1,a1,a2,a3⟩:=specLineCells_own hk n (line:Int) H
  have hcb:cs.blk ≠ t.blk:=by have:=a3.blk; have:=own_lt' ho; omega
  obtain ⟨H2,a',b1,b2,b3,b4⟩:=Hidden_l1 (callF PP orc k) k (by omega) (spec_NarrowHidden.l0 (callF PP orc k) k fuel) hmk hm (by omega) hcb n.toNat 1 k H1 a P (by omega) (by omega) (by omega) (hp.trans a2) (own_reads a3) (own_pf ho a2) hs
  obtain ⟨H',a'',d1,d2,d3,d4⟩:=ih (line + 1) fuel H2 a' _ (by omega) (by omega) b2 b3 b4
  push_cast at d1
  refine ⟨H',a'',?_,d2,d3,d4.congr fun x w hx=>?_⟩
  ·simp only [Int.natCast_one] at b1
   simp (disch:=omega) only [spec_NarrowHidden.l0,dt,df,bt,bf,nt,nf,Za,Zy,Zx,Zt,Zf,Zn,Zz,Zi,Zo,wr,AV.toB,AV.toI,AV.toS,if_true,a1,b1,d1]
  ·constructor
   ·rintro ((h | ⟨u,h1,h2,h3,h4⟩) | ⟨ln,u,h1,h2⟩)
    ·exact .inl h
    ·exact .inr ⟨line,u,Nat.le_refl _,by omega,h1,h2,h3,h4⟩
    ·exact .inr ⟨ln,u,by omega,h2⟩
   ·rintro (h | ⟨ln,u,h1,h2,h3,h4,h5,h6⟩)
    ·exact .inl (.inl h)
    ·by_cases e:ln=line
     ·subst e; exact .inl (.inr ⟨u,h3,h4,h5,h6⟩)
     ·exact .inr ⟨ln,u,by omega,h2,h3,h4,h5,h6⟩
theorem specNarrowHidden_ok {k:Nat} (hk:2000010 ≤ k) {H:Hp} {ms:Sl} {l:List Int} {n:Int} (hb:-1 ≤ n∧n ≤ 5) (hm:Reads .i64 H ms l) (hl:l.length ≤ 1000) :
  ∃ t H',callF PP orc k spec_NarrowHidden.id [.sl 1 ms,.int .i64 n] H=some (.sl 1 t,H')∧H <+: H'∧Own 1 H H' t ((hiddenV n l).map (.int .i64)):=by
 obtain ⟨k,rfl⟩:=Zs k (by omega)
 rw [spec_NarrowHidden.call]
 have h1:=specMasksValid_any (show 2000000 ≤ k by omega) hb hm hl
 unfold hiddenV
 cases hv:masksOk n l with
 | false=>
  rw [hv] at h1
  rw [iN (by simp)]
  exact ⟨Sl.mk false H.length 0 0,H ++ [some (Blk.mk false [])],by simp only [spec_NarrowHidden.f,dt,df,bt,bf,nt,nf,Za,Zy,Zx,Zt,Zf,Zn,Zz,Zi,Zo,wr,AV.toB,AV.toI,AV.toS,if_true,h1],(List.prefix_append _ _),own_new 1 H [] 0 rfl⟩
 | true=>
  rw [hv] at h1
  rw [ip rfl]
  obtain ⟨l4,l16,lN,hN,n2,n4⟩:=masks_len hv
  have hM:=masks_M hv
  have h2:=l6Copy_ok (show 1 ≤ k by omega) hm hl
  have hnew:=own_new 1 H (l.map (.int .i64)) l.length (by simp)
  obtain ⟨H',a',b1,b2,b3,b4⟩:=Hidden_l0 (show 2000000 ≤ k by omega) hv hm (2 * n).toNat 0 k (H ++ [some (Blk.mk false (l.map (.int .i64)))]) l _ (by omega) (by omega) (List.prefix_append _ _) hnew (Sub.refl hM)
  have e:a'=subAll l (PH n l):=(b4.congr fun x w hx=>(show _ ↔ PH n l x w from ⟨by rintro (h | ⟨ln,u,_,h⟩); exact h.elim; exact ⟨ln,u,h⟩,fun ⟨ln,u,h⟩=>.inr ⟨ln,u,by omega,h⟩⟩)).eq hM
  subst e
  refine ⟨_,H',?_,b2,b3⟩
  simp only [Int.natCast_zero] at b1
  simp only [spec_NarrowHidden.f,dt,df,bt,bf,nt,nf,Za,Zy,Zx,Zt,Zf,Zn,Zz,Zi,Zo,wr,AV.toB,AV.toI,AV.toS,if_true,h1,h2,b1]
theorem row_ok {N i kk:Nat} (hN:N=2 ∨ N=3 ∨ N=4) (hi:i ≤ 100) (hk:kk ≤ 100):IntKind.i64.wrap (IntKind.i64.wrap (IntKind.i64.wrap ((i:Int).tdiv (N:Int)) * (N:Int)) + (kk:Int))=((i / N * N + kk:Nat):Int)∧IntKind.i64.wrap (IntKind.i64.wrap ((kk:Int) * (N:Int)) + (i:Int).tmod (N:Int))=((kk * N + i % N:Nat):Int):=by
 rw [tdivN,tmodN]
 have d:=Nat.div_le_self i N
 have m:i % N < N:=Nat.mod_lt _ (by omega)
 rcases hN with rfl | rfl | rfl
 ·rw [wr (n:=((i / 2:Nat):Int)) (by omega) (by omega),wr (n:=((i / 2:Nat):Int) * ((2:Nat):Int)) (by omega) (by omega),wr (n:=((i / 2:Nat):Int) * ((2:Nat):Int) + (kk:Int)) (by omega) (by omega),wr (n:=(kk:Int) * ((2:Nat):Int)) (by omega) (by omega),wr (n:=(kk:Int) * ((2:Nat):Int) + ((i % 2:Nat):Int)) (by omega) (by omega)]
  constructor <;> (push_cast; omega)
 ·rw [wr (n:=((i / 3:Nat):Int)) (by omega) (by omega),wr (n:=((i / 3:Nat):Int) * ((3:Nat):Int)) (by omega) (by omega),wr (n:=((i / 3:Nat):Int) * ((3:Nat):Int) + (kk:Int)) (by omega) (by omega),wr (n:=(kk:Int) * ((3:Nat):Int)) (by omega) (by omega),wr (n:=(kk:Int) * ((3:Nat):Int) + ((i % 3:Nat):Int)) (by omega) (by omega)]
  constructor <;> (push_cast; omega)
 ·rw [wr (n:=((i / 4:Nat):Int)) (by omega) (by omega),wr (n:=((i / 4:Nat):Int) * ((4:Nat):Int)) (by omega) (by omega),wr (n:=((i / 4:Nat):Int) * ((4:Nat):Int) + (kk:Int)) (by omega) (by omega),wr (n:=(kk:Int) * ((4:Nat):Int)) (by omega) (by omega),wr (n:=(kk:Int) * ((4:Nat):Int) + ((i % 4:Nat):Int)) (by omega) (by omega)]
  constructor <;> (push_cast; omega)
theorem peer_iff {N x i:Nat} (hN:N=2 ∨ N=3 ∨ N=4) (hx:x < N * N) (hi:i < N * N):(∃ u,u < N∧(x=i / N * N + u ∨ x=u * N + i % N)∧x ≠ i) ↔ peer N x i:=by
 unfold peer
 constructor
 ·rintro ⟨u,hu,h,hne⟩
  refine ⟨hne,?_⟩
  rcases hN with rfl | rfl | rfl <;> omega
 ·rintro ⟨hne,h⟩
  rcases h with h | h
  ·refine ⟨x % N,Nat.mod_lt _ (by omega),.inl ?_,hne⟩
   rcases hN with rfl | rfl | rfl <;> omega
  ·refine ⟨x / N,?_,.inr ?_,hne⟩
   ·rcases hN with rfl | rfl | rfl <;> omega
   ·rcases hN with rfl | rfl | rfl <;> omega
theorem iSing_l4 (rec:Rec) (k:Nat) (L0:Int→Sl→Sl→Int→Int→Hp→An) (L2:Int→Sl→Int→Int→Sl→Int→Int→Int→Int→Hp→An) {H0 Hb:Hp} {n x18 x19 x27 x28 m:Int} {i:Nat} {t xs x17:Sl} {l cs:List Int} (hm:M m) (hcl:cs.length ≤ 10) (hin:∀ c ∈ cs,0 ≤ c∧c < (l.length:Int)) (hl:l.length ≤ 100) (htb:t.blk < Hb.length) :
  ∀ (j q fuel:Nat) (H:Hp) (a:List Int) (P:Nat→Nat→Prop),q + j=cs.length→j < fuel→H0 <+: H→Own 1 Hb H xs (cs.map (.int .i64))→Own 1 H0 H t (a.map (.int .i64))→Sub l a P →
   ∃ H' a',impl_NarrowSingles.l4 rec k L0 L2 fuel n t i m x17 x18 x19 x27 x28 xs (cs.length:Int) q H=L2 n t i m x17 x18 x19 x27 (IntKind.i64.wrap (x28 + 1)) H'∧H0 <+: H'∧Own 1 H0 H' t (a'.map (.int .i64))∧Adv t.blk H H'∧Sub l a' (fun x v=>P x v ∨ ∃ u,q ≤ u∧u < cs.length∧(x:Int)=cs.getD u 0∧x ≠ i∧has m v=true):=by
 intro j
 induction j with
 | zero=>
  intro q fuel H a P hq hf hp hx ho hs
  obtain ⟨fuel,rfl⟩:=Zs fuel (by omega)
  refine ⟨H,a,?_,hp,ho,Adv.refl _ _,hs.congr fun x v hx=>⟨.inl,by rintro (h | ⟨u,h1,h2,_⟩); exact h; omega⟩⟩
  simp (disch:=omega) only [impl_NarrowSingles.l4,impl_NarrowSingles.j6,df,Zf]
 | succ j ih=>
  intro q fuel H a P hq hf hp hx ho hs
  obtain ⟨fuel,rfl⟩:=Zs fuel (by omega)
  have hq2:q < cs.length:=by omega
  obtain ⟨c0,c1⟩:=hin _ (mem_getD hq2)
  have hal:=hs.len
  have htl:=(own_reads ho).len
  have hxl:=(own_reads hx).len
  have hrx:=rdn (own_reads hx) hq2
  obtain ⟨c,hc⟩:=Int.eq_ofNat_of_zero_le c0
  rw [hc] at hrx c1
  by_cases e:c=i
  ·obtain ⟨H',a',b1,b2,b3,b4,b5⟩:=ih (q + 1) fuel H a P (by omega) (by omega) hp hx ho hs
   push_cast at b1
   refine ⟨H',a',?_,b2,b3,b4,b5.congr fun x v hxl=>?_⟩
   ·simp (disch:=omega) only [impl_NarrowSingles.l4,impl_NarrowSingles.j5,dt,nf,Za,Zt,Zf,Zn,Zo,hrx,wr (n:=(q:Int) + 1),b1]
   ·constructor
    ·rintro (h | ⟨u,h1,h2⟩)
     ·exact .inl h
     ·exact .inr ⟨u,by omega,h2⟩
    ·rintro (h | ⟨u,h1,h2,h3,h4,h5⟩)
     ·exact .inl h
     ·refine .inr ⟨u,?_,h2,h3,h4,h5⟩
      by_cases eu:u=q
      ·subst eu; rw [hc] at h3; omega
      ·omega
  ·obtain ⟨H1,a1,a2,a3,a4⟩:=own_set1 ho hp c (by omega) (mSub (a.getD c 0) m)
   obtain ⟨H',a',b1,b2,b3,b4,b5⟩:=ih (q + 1) fuel H1 _ _ (by omega) (by omega) a2 (a4.own htb hx) a3 (hs.step c (by omega) hm)
   push_cast at b1
   refine ⟨H',a',?_,b2,b3,a4.trans b4,b5.congr fun x v hxl=>?_⟩
   ·simp (disch:=omega) only [impl_NarrowSingles.l4,impl_NarrowSingles.j5,dt,nt,Za,Zt,Zn,Zo,hrx,rdn (own_reads ho),m_sub (hs.ms.at c) hm,a1,wr (n:=(q:Int) + 1),b1]
   ·constructor
    ·rintro ((h | ⟨h1,h2⟩) | ⟨u,h1,h2⟩)
     ·exact .inl h
     ·exact .inr ⟨q,Nat.le_refl _,hq2,by rw [hc,h1],by omega,h2⟩
     ·exact .inr ⟨u,by omega,h2⟩
    ·rintro (h | ⟨u,h1,h2,h3,h4,h5⟩)
     ·exact .inl (.inl h)
     ·by_cases eu:u=q
      ·subst eu; rw [hc] at h3; exact .inl (.inr ⟨by omega,h5⟩)
      ·exact .inr ⟨u,by omega,h2,h3,h4,h5⟩
theorem iSing_l2 (rec:Rec) (k:Nat) (hk:100 ≤ k) (L0:Int→Sl→Sl→Int→Int→Hp→An) {H0:Hp} {N i:Nat} {x18 m:Int} {t x17:Sl} {l:List Int} (hN:N=2 ∨ N=3 ∨ N=4) (hl:l.length=N * N) (hi:i < l.length) (hm:M m) :
  ∀ (j kk fuel:Nat) (H:Hp) (a:List Int) (P:Nat→Nat→Prop),kk + j=N→j < fuel→H0 <+: H→Own 1 H0 H t (a.map (.int .i64))→Sub l a P →
   ∃ H' a',impl_NarrowSingles.l2 rec k L0 fuel (N:Int) t i m x17 x18 i (N:Int) kk H=L0 (N:Int) t x17 x18 ((i:Int) + 1) H'∧H0 <+: H'∧Own 1 H0 H' t (a'.map (.int .i64))∧Sub l a' (fun x v=>P x v ∨ ∃ u,kk ≤ u∧u < N∧(x=i / N * N + u ∨ x=u * N + i % N)∧x ≠ i∧has m v=true):=by
 have hl16:l.length ≤ 16:=by rcases hN with rfl | rfl | rfl <;> omega
 intro j
 induction j with
 | zero=>
  intro kk fuel H a P hq hf hp ho hs
  obtain ⟨fuel,rfl⟩:=Zs fuel (by omega)
  refine ⟨H,a,?_,hp,ho,hs.congr fun x v hx=>⟨.inl,by rintro (h | ⟨u,h1,h2,_⟩); exact h; omega⟩⟩
  simp (disch:=omega) only [impl_NarrowSingles.l2,impl_NarrowSingles.j1,df,Zf,wr (n:=(i:Int) + 1)]
 | succ j ih=>
  intro kk fuel H a P hq hf hp ho hs
  obtain ⟨fuel,rfl⟩:=Zs fuel (by omega)
  obtain ⟨r1,r2⟩:=row_ok (i:=i) (kk:=kk) hN (by omega) (by omega)
  have q1:H <+: H ++ [some (Blk.mk false (([((i / N * N + kk:Nat):Int),((kk * N + i % N:Nat):Int)]:List Int).map (.int .i64)))]:=List.prefix_append _ _
  have hnew:=own_new 1 H (([((i / N * N + kk:Nat):Int),((kk * N + i % N:Nat):Int)]:List Int).map (.int .i64)) 2 rfl
  obtain ⟨H1,a1,b1,b2,b3,b4,b5⟩:=iSing_l4 rec k L0 (impl_NarrowSingles.l2 rec k L0 fuel) (n:=(N:Int)) (x17:=x17) (x18:=x18) (x19:=(i:Int)) (x27:=(N:Int)) (x28:=(kk:Int)) (i:=i) hm (cs:=[((i / N * N + kk:Nat):Int),((kk * N + i % N:Nat):Int)]) (l:=l) (by simp) (fun c hc=>by
   simp only [List.mem_cons,List.not_mem_nil,or_false] at hc
   rcases hN with rfl | rfl | rfl <;> omega) (by omega) (own_lt' ho) 2 0 k (H ++ [some (Blk.mk false (([((i / N * N + kk:Nat):Int),((kk * N + i % N:Nat):Int)]:List Int).map (.int .i64)))]) a P (by simp) (by omega) (hp.trans q1) hnew (own_pf ho q1) hs
  obtain ⟨H',a',d1,d2,d3,d4⟩:=ih (kk + 1) fuel H1 a1 _ (by omega) (by omega) b2 b3 b5
  push_cast at d1
  refine ⟨H',a',?_,d2,d3,d4.congr fun x v hxl=>?_⟩
  ·simp only [List.map_cons,List.map_nil,Zl,Zm,Int.natCast_zero] at b1
   simp (disch:=omega) only [impl_NarrowSingles.l2,dt,Zt,iN (show ¬ ((N:Int)=0) by omega),r1,r2]
   refine Eq.trans b1 ?_
   rw [wr (n:=(kk:Int) + 1) (by omega) (by omega)]
   exact d1
  ·constructor
   ·rintro ((h | ⟨u,h1,h2,h3,h4⟩) | ⟨u,h1,h2⟩)
    ·exact .inl h
    ·have:u=0 ∨ u=1:=by simp at h2; omega
     rcases this with rfl | rfl
     ·exact .inr ⟨kk,Nat.le_refl _,by omega,.inl (by simpa using Int.ofNat_inj.1 h3),h4⟩
     ·exact .inr ⟨kk,Nat.le_refl _,by omega,.inr (by simpa using Int.ofNat_inj.1 h3),h4⟩
    ·exact .inr ⟨u,by omega,h2⟩
   ·rintro (h | ⟨u,h1,h2,h3,h4⟩)
    ·exact .inl (.inl h)
    ·by_cases eu:u=kk
     ·subst eu
      rcases h3 with h3 | h3
      ·exact .inl (.inr ⟨0,by omega,by simp,by rw [h3]; rfl,h4⟩)
      ·exact .inl (.inr ⟨1,by omega,by simp,by rw [h3]; rfl,h4⟩)
     ·exact .inr ⟨u,by omega,h2,h3,h4⟩
theorem iSing_l0 {k:Nat} (hk:2000000 ≤ k) {H0:Hp} {ms t:Sl} {l:List Int} {N:Nat} {n:Int} (hN:N=2 ∨ N=3 ∨ N=4) (hnN:n=(N:Int)) (hm:Reads .i64 H0 ms l) (hv:masksOk n l=true) (hll:l.length=N * N) :
  ∀ (j i fuel:Nat) (H:Hp) (a:List Int) (P:Nat→Nat→Prop),i + j=l.length→j < fuel→H0 <+: H→Own 1 H0 H t (a.map (.int .i64))→Sub l a P →
   ∃ H' a',impl_NarrowSingles.l0 (callF PP orc k) k fuel (N:Int) t ms (l.length:Int) i H=some (.sl 1 t,H')∧H0 <+: H'∧Own 1 H0 H' t (a'.map (.int .i64))∧Sub l a' (fun x v=>P x v ∨ ∃ q,i ≤ q∧q < l.length∧peer N x q∧single (l.getD q 0)=true∧has (l.getD q 0) v=true):=by
 have hml:=hm.len
 have hM:=masks_M hv
 have hl16:l.length ≤ 16:=by rcases hN with rfl | rfl | rfl <;> omega
 intro j
 induction j with
 | zero=>
  intro i fuel H a P hi hf hp ho hs
  obtain ⟨fuel,rfl⟩:=Zs fuel (by omega)
  refine ⟨H,a,?_,hp,ho,hs.congr fun x v hx=>⟨.inl,by rintro (h | ⟨q,h1,h2,_⟩); exact h; omega⟩⟩
  simp (disch:=omega) only [impl_NarrowSingles.l0,impl_NarrowSingles.j3,df,Zf]
 | succ j ih=>
  intro i fuel H a P hi hf hp ho hs
  obtain ⟨fuel,rfl⟩:=Zs fuel (by omega)
  have hi2:i < l.length:=by omega
  have hrd:=pf_reads hp hm
  have h1:=onlyValue_ok hk (masks_at hv hi2) H
  obtain ⟨o1,o2⟩:=oneOf_single (masks_at hv hi2)
  cases es:single (l.getD i 0) with
  | true=>
   have h0:=(o2 es).2
   obtain ⟨H2,a',b1,b2,b3,b4⟩:=iSing_l2 (callF PP orc k) k (by omega) (impl_NarrowSingles.l0 (callF PP orc k) k fuel) (x17:=ms) (x18:=(l.length:Int)) hN hll hi2 (hM.at i) N 0 k H a P (by omega) (by omega) hp ho hs
   obtain ⟨H',a'',d1,d2,d3,d4⟩:=ih (i + 1) fuel H2 a' _ (by omega) (by omega) b2 b3 b4
   push_cast at d1
   refine ⟨H',a'',?_,d2,d3,d4.congr fun x v hx=>?_⟩
   ·simp only [Int.natCast_zero] at b1
    simp (disch:=omega) only [impl_NarrowSingles.l0,dt,bf,Za,Zt,Zf,Zn,Zo,AV.toI,if_true,rdn hrd,h1,b1,d1]
   ·constructor
    ·rintro ((h | ⟨u,_,h2,h3,h4,h5⟩) | ⟨q,h1,h2⟩)
     ·exact .inl h
     ·exact .inr ⟨i,Nat.le_refl _,hi2,(peer_iff hN (by omega) (by omega)).1 ⟨u,h2,h3,h4⟩,es,h5⟩
     ·exact .inr ⟨q,by omega,h2⟩
    ·rintro (h | ⟨q,h1,h2,h3,h4,h5⟩)
     ·exact .inl (.inl h)
     ·by_cases e:q=i
      ·subst e
       obtain ⟨u,u1,u2,u3⟩:=(peer_iff hN (by omega) (by omega)).2 h3
       exact .inl (.inr ⟨u,by omega,u1,u2,u3,h5⟩)
      ·exact .inr ⟨q,by omega,h2,h3,h4,h5⟩
  | false=>
   have h0:=o1.2 es
   obtain ⟨H',a'',d1,d2,d3,d4⟩:=ih (i + 1) fuel H a P (by omega) (by omega) hp ho hs
   push_cast at d1
   refine ⟨H',a'',?_,d2,d3,d4.congr fun x v hx=>?_⟩
   ·simp (disch:=omega) only [impl_NarrowSingles.l0,impl_NarrowSingles.j1,dt,bt,Za,Zt,Zf,Zn,Zo,AV.toI,if_true,rdn hrd,h1,wr (n:=(i:Int) + 1),d1]
   ·constructor
    ·rintro (h | ⟨q,h1,h2⟩)
     ·exact .inl h
     ·exact .inr ⟨q,by omega,h2⟩
    ·rintro (h | ⟨q,h1,h2,h3,h4,h5⟩)
     ·exact .inl h
     ·refine .inr ⟨q,?_,h2,h3,h4,h5⟩
      by_cases e:q=i
      ·subst e; rw [es] at h4; cases h4
      ·omega
theorem implNarrowSingles_ok {k:Nat} (hk:2000010 ≤ k) {H:Hp} {ms:Sl} {l:List Int} {n:Int} (hb:-1 ≤ n∧n ≤ 5) (hm:Reads .i64 H ms l) (hnn:ms.nil=false) (hl:l.length ≤ 1000) (hr:∀ m ∈ l,-2 ≤ m∧m ≤ 63) :
  ∃ t H',callF PP orc k impl_NarrowSingles.id [.sl 1 ms,.int .i64 n] H=some (.sl 1 t,H')∧H <+: H'∧NilOr H H' t (singlesV n l):=by
 obtain ⟨k,rfl⟩:=Zs k (by omega)
 rw [impl_NarrowSingles.call]
 have h1:=implMasksValid_ok (show 2000000 ≤ k by omega) hb hm hl hr
 have hml:=hm.len
 unfold singlesV
 cases hv:masksOk n l with
 | false=>
  rw [hv] at h1
  rw [iN (by simp)]
  exact ⟨Sl.none,H,by simp only [impl_NarrowSingles.f,dt,df,bt,bf,nt,nf,Za,Zy,Zx,Zt,Zf,Zn,Zz,Zi,Zo,wr,AV.toB,AV.toI,AV.toS,if_true,h1],(List.prefix_refl _),.inl ⟨rfl,rfl⟩⟩
 | true=>
  rw [hv] at h1
  rw [ip rfl]
  obtain ⟨l4,l16,lN,hN,n2,n4⟩:=masks_len hv
  have hM:=masks_M hv
  have h2:=Clone_own (show 1 ≤ k by omega) hm hnn hl
  have hnew:=own_new 1 H (l.map (.int .i64)) l.length (by simp)
  obtain ⟨H',a',b1,b2,b3,b4⟩:=iSing_l0 (show 2000000 ≤ k by omega) (N:=n.toNat) (by omega) hN hm hv lN l.length 0 k (H ++ [some (Blk.mk false (l.map (.int .i64)))]) l _ (by omega) (by omega) (List.prefix_append _ _) hnew (Sub.refl hM)
  rw [← hN] at b1
  have e:a'=subAll l (PS n.toNat l):=(b4.congr fun x v hx=>(show _ ↔ PS n.toNat l x v from ⟨by rintro (h | ⟨q,_,h⟩); exact h.elim; exact ⟨q,h⟩,fun ⟨q,h⟩=>.inr ⟨q,by omega,h⟩⟩)).eq hM
  subst e
  refine ⟨_,H',?_,b2,.inr b3⟩
  simp only [Int.natCast_zero] at b1
  simp only [impl_NarrowSingles.f,dt,df,bt,bf,nt,nf,Za,Zy,Zx,Zt,Zf,Zn,Zz,Zi,Zo,wr,AV.toB,AV.toI,AV.toS,if_true,h1,h2,hml,b1]
theorem iHid_l3 (rec:Rec) (k:Nat) (L0:Sl→Int→Sl→Int→Int→Hp→An) (L1:Sl→Int→Sl→Int→Int→Int→Int→Hp→An) {H:Hp} {ms t cs:Sl} {l cells:List Int} {n line x19 x20:Int} {v:Nat} (hm:Reads .i64 H ms l) (hc:Reads .i64 H cs cells) (hcl:cells.length ≤ 10) (hin:∀ c ∈ cells,0 ≤ c∧c.toNat < l.length∧c < (l.length:Int)) (hM:Ms l) (hv:1 ≤ v∧v ≤ 4) :
  ∀ (j q fuel:Nat) (many at':Int),q + j=cells.length→j < fuel→0 ≤ many→many ≤ q →
   ∃ at2,impl_NarrowHidden.l3 rec k L0 L1 fuel ms n t line v at' many x19 x20 cs (cells.length:Int) q H=impl_NarrowHidden.j6 rec k L0 L1 ms n t line v at2 (many + ((cells.drop q).filter fun c=>has (l.getD c.toNat 0) v).length) x19 x20 H∧(∀ c,many=0→(cells.drop q).filter (fun c=>has (l.getD c.toNat 0) v)=[c]→at2=c)∧((cells.drop q).filter (fun c=>has (l.getD c.toNat 0) v)=[]→at2=at'):=by
 have hml:=hm.len
 have hcs:=hc.len
 intro j
 induction j with
 | zero=>
  intro q fuel many at' hq hf h0 h1
  obtain ⟨fuel,rfl⟩:=Zs fuel (by omega)
  rw [List.drop_eq_nil_of_le (by omega)]
  refine ⟨at',?_,fun c _ h=>(by cases h),fun _=>rfl⟩
  simp (disch:=omega) only [impl_NarrowHidden.l3,dt,df,bt,bf,nt,nf,Za,Zy,Zx,Zt,Zf,Zn,Zz,Zi,Zo,wr,AV.toB,AV.toI,AV.toS,if_true,List.filter_nil,Zm,Int.natCast_zero,Int.add_zero]
 | succ j ih=>
  intro q fuel many at' hq hf h0 h1
  obtain ⟨fuel,rfl⟩:=Zs fuel (by omega)
  have hq2:q < cells.length:=by omega
  obtain ⟨c0,c1,c2⟩:=hin _ (mem_getD hq2)
  have hd:cells.drop q=cells.getD q 0 :: cells.drop (q + 1):=by
   rw [List.drop_eq_getElem_cons hq2,List.getD_eq_getElem?_getD,List.getElem?_eq_getElem hq2]; rfl
  rw [hd,List.filter_cons]
  have hb:=m_bit' (v:=(v:Int)) (hM.at (cells.getD q 0).toNat) (by omega) (by omega)
  rw [Int.toNat_natCast] at hb
  cases hh:has (l.getD (cells.getD q 0).toNat 0) v with
  | true=>
   rw [hh] at hb
   obtain ⟨at2,a1,a2,a3⟩:=ih (q + 1) fuel (many + 1) (cells.getD q 0) (by omega) (by omega) (by omega) (by omega)
   push_cast at a1
   rw [if_pos rfl,List.length_cons]
   refine ⟨at2,?_,fun c hm0 he=>?_,fun h=>by cases h⟩
   ·push_cast
    rw [show many + ((((cells.drop (q + 1)).filter fun c=>has (l.getD c.toNat 0) v).length:Int) + 1)=many + 1 + (((cells.drop (q + 1)).filter fun c=>has (l.getD c.toNat 0) v).length:Int) by omega,← a1]
    simp (disch:=omega) only [impl_NarrowHidden.l3,impl_NarrowHidden.j5,dt,df,Za,Zt,Zn,Zo,rdn hc,rdn hm,iN,hb,wr (n:=many + 1),wr (n:=(q:Int) + 1)]
   ·rw [List.cons.injEq] at he
    rw [a3 he.2]; exact he.1
  | false=>
   rw [hh] at hb
   obtain ⟨at2,a1,a2,a3⟩:=ih (q + 1) fuel many at' (by omega) (by omega) h0 (by omega)
   push_cast at a1
   rw [if_neg (by simp)]
   refine ⟨at2,?_,a2,a3⟩
   rw [← a1]
   simp (disch:=omega) only [impl_NarrowHidden.l3,impl_NarrowHidden.j5,dt,df,Za,Zt,Zf,Zn,Zo,rdn hc,rdn hm,iN,hb,wr (n:=(q:Int) + 1)]
theorem iHid_l1 {k:Nat} (hk:2000000 ≤ k) (L0:Sl→Int→Sl→Int→Int→Hp→An) {H0:Hp} {ms t:Sl} {l:List Int} {n x19:Int} {line:Nat} (hmk:masksOk n l=true) (hm:Reads .i64 H0 ms l) (hline:(line:Int) < 2 * n) :
  ∀ (j v fuel:Nat) (H:Hp) (a:List Int) (P:Nat→Nat→Prop),(v:Int) + j=n + 1→1 ≤ v→j < fuel→H0 <+: H→Own 1 H0 H t (a.map (.int .i64))→Sub l a P →
   ∃ H' a',impl_NarrowHidden.l1 (callF PP orc k) k L0 fuel ms n t line v x19 line H=L0 ms n t x19 ((line:Int) + 1) H'∧H0 <+: H'∧Own 1 H0 H' t (a'.map (.int .i64))∧Sub l a' (fun x w=>P x w ∨ ∃ u:Nat,v ≤ u∧(u:Int) ≤ n∧lineHas n l line u=[(x:Int)]∧w ≠ u):=by
 obtain ⟨l4,l16,lN,hN,n2,n4⟩:=masks_len hmk
 have hM:=masks_M hmk
 have hlc:=lineCells_len n line
 intro j
 induction j with
 | zero=>
  intro v fuel H a P hv hv1 hf hp ho hs
  obtain ⟨fuel,rfl⟩:=Zs fuel (by omega)
  refine ⟨H,a,?_,hp,ho,hs.congr fun x w hx=>⟨.inl,by rintro (h | ⟨u,h1,h2,_⟩); exact h; omega⟩⟩
  simp (disch:=omega) only [impl_NarrowHidden.l1,impl_NarrowHidden.j4,df,Zf,wr (n:=(line:Int) + 1)]
 | succ j ih=>
  intro v fuel H a P hv hv1 hf hp ho hs
  obtain ⟨fuel,rfl⟩:=Zs fuel (by omega)
  have hal:=hs.len
  have htl:t.len=a.length:=by have:=ho.len; simpa using this
  obtain ⟨cs,Hc,a1,a2,a3⟩:=implLineCells_own hk (n:=n) (line:=(line:Int)) ⟨by omega,by omega⟩ ⟨by omega,hline⟩ H
  have hpc:=hp.trans a2
  have hoc:=own_pf ho a2
  have hcl:=(own_reads a3).len
  obtain ⟨at2,b1,b2,b3⟩:=iHid_l3 (callF PP orc k) k L0 (impl_NarrowHidden.l1 (callF PP orc k) k L0 fuel) (t:=t) (n:=n) (line:=(line:Int)) (x19:=x19) (x20:=(line:Int)) (pf_reads hpc hm) (own_reads a3) (by omega) (fun c h=>line_in hmk h) hM (v:=v) ⟨hv1,by omega⟩ (lineCells n line).length 0 k 0 0 (by omega) (by omega) (by omega) (by omega)
  simp only [List.drop_zero,Int.natCast_zero,Int.zero_add] at b1 b2
  have hlh:(lineCells n line).filter (fun c=>has (l.getD c.toNat 0) v)=lineHas n l line v:=rfl
  rw [hlh] at b1 b2
  by_cases c:(lineHas n l line v).length=1
  ·obtain ⟨x0,hx0⟩:=List.length_eq_one_iff.1 c
   have hat:=b2 x0 (by first | rfl | trivial) hx0
   have hxm:x0 ∈ lineCells n line:=(List.mem_filter.1 (show x0 ∈ lineHas n l line v by rw [hx0]; simp)).1
   obtain ⟨q0,q1,q2⟩:=line_in hmk hxm
   have hpm:M (pw (v:Int)):=M.pw (by omega) (by omega)
   have h31:M (mSub 31 (pw (v:Int))):=M.sub ⟨by decide,by decide⟩ hpm
   obtain ⟨H1,d1,d2,d3,d4⟩:=own_set1 hoc hpc x0.toNat (by omega) (mAnd (a.getD x0.toNat 0) (pw (v:Int)))
   have hs1:=hs.step x0.toNat q1 h31
   rw [← and_sub (hs.ms.at _) hpm] at hs1
   obtain ⟨H',a',e1,e2,e3,e4⟩:=ih (v + 1) fuel H1 _ _ (by omega) (by omega) (by omega) d2 d3 hs1
   push_cast at e1
   refine ⟨H',a',?_,e2,e3,e4.congr5 hM fun x w hx hw=>?_⟩
   ·rw [c] at b1
    subst hat
    simp only [Int.natCast_one] at b1
    simp (disch:=omega) only [impl_NarrowHidden.l1,dt,Zt,a1,hcl,AV.toS,if_true,b1,impl_NarrowHidden.j6,bt,Za,Zo,rdn (own_reads hoc),iN,m_shl (v:=(v:Int)),m_and (hs.ms.at _) hpm,d1,impl_NarrowHidden.j7,wr (n:=(v:Int) + 1),e1]
   ·have hnot:Rp.has (mSub 31 (pw (v:Int))) w=true ↔ w ≠ v:=by
     rcases has_all w hw (pw (v:Int)) with e | e
     ·rw [e,has_pw (by omega)]
      simp only [Bool.not_eq_true',decide_eq_false_iff_not]
      constructor <;> (intro h e; apply h; omega)
     ·exact absurd hpm e
    constructor
    ·rintro ((h | ⟨h1,h2⟩) | ⟨u,h1,h2⟩)
     ·exact .inl h
     ·subst h1
      exact .inr ⟨v,Nat.le_refl _,by omega,by rw [hx0]; congr 1; omega,hnot.1 h2⟩
     ·exact .inr ⟨u,by omega,h2⟩
    ·rintro (h | ⟨u,h1,h2,h3,h4⟩)
     ·exact .inl (.inl h)
     ·by_cases e:u=v
      ·subst e
       rw [hx0,List.cons.injEq] at h3
       exact .inl (.inr ⟨by omega,hnot.2 h4⟩)
      ·exact .inr ⟨u,by omega,h2,h3,h4⟩
  ·obtain ⟨H',a',e1,e2,e3,e4⟩:=ih (v + 1) fuel Hc a P (by omega) (by omega) (by omega) hpc hoc hs
   push_cast at e1
   refine ⟨H',a',?_,e2,e3,e4.congr fun x w hx=>?_⟩
   ·simp (disch:=omega) only [impl_NarrowHidden.l1,dt,Zt,a1,hcl,AV.toS,if_true,Zo,b1,impl_NarrowHidden.j6,bf,Zf,impl_NarrowHidden.j7,wr (n:=(v:Int) + 1),e1]
   ·constructor
    ·rintro (h | ⟨u,h1,h2⟩)
     ·exact .inl h
     ·exact .inr ⟨u,by omega,h2⟩
    ·rintro (h | ⟨u,h1,h2,h3,h4⟩)
     ·exact .inl h
     ·refine .inr ⟨u,?_,h2,h3,h4⟩
      by_cases e:u=v
      ·subst e; rw [h3] at c; exact absurd rfl c
      ·omega
theorem iHid_l0 {k:Nat} (hk:2000000 ≤ k) {H0:Hp} {ms t:Sl} {l:List Int} {n:Int} (hmk:masksOk n l=true) (hm:Reads .i64 H0 ms l) :
  ∀ (j line fuel:Nat) (H:Hp) (a:List Int) (P:Nat→Nat→Prop),(line:Int) + j=2 * n→j < fuel→H0 <+: H→Own 1 H0 H t (a.map (.int .i64))→Sub l a P →
   ∃ H' a',impl_NarrowHidden.l0 (callF PP orc k) k fuel ms n t (2 * n) line H=some (.sl 1 t,H')∧H0 <+: H'∧Own 1 H0 H' t (a'.map (.int .i64))∧Sub l a' (fun x w=>P x w ∨ ∃ ln u:Nat,line ≤ ln∧(ln:Int) < 2 * n∧1 ≤ u∧(u:Int) ≤ n∧lineHas n l ln u=[(x:Int)]∧w ≠ u):=by
 obtain ⟨l4,l16,lN,hN,n2,n4⟩:=masks_len hmk
 intro j
 induction j with
 | zero=>
  intro line fuel H a P hl hf hp ho hs
  obtain ⟨fuel,rfl⟩:=Zs fuel (by omega)
  refine ⟨H,a,?_,hp,ho,hs.congr fun x w hx=>⟨.inl,by rintro (h | ⟨ln,u,h1,h2,_⟩); exact h; omega⟩⟩
  simp (disch:=omega) only [impl_NarrowHidden.l0,impl_NarrowHidden.j2,df,Zf]
 | succ j ih=>
  intro line fuel H a P hl hf hp ho hs
  obtain ⟨fuel,rfl⟩:=Zs fuel (by omega)
  obtain ⟨H2,a',b1,b2,b3,b4⟩:=iHid_l1 hk (impl_NarrowHidden.l0 (callF PP orc k) k fuel) (x19:=2 * n) hmk hm (line:=line) (by omega) n.toNat 1 k H a P (by omega) (by omega) (by omega) hp ho hs
  obtain ⟨H',a'',d1,d2,d3,d4⟩:=ih (line + 1) fuel H2 a' _ (by omega) (by omega) b2 b3 b4
  push_cast at d1
  refine ⟨H',a'',?_,d2,d3,d4.congr fun x w hx=>?_⟩
  ·simp only [Int.natCast_one] at b1
   simp (disch:=omega) only [impl_NarrowHidden.l0,dt,Zt,b1,d1]
  ·constructor
   ·rintro ((h | ⟨u,h1,h2,h3,h4⟩) | ⟨ln,u,h1,h2⟩)
    ·exact .inl h
    ·exact .inr ⟨line,u,Nat.le_refl _,by omega,h1,h2,h3,h4⟩
    ·exact .inr ⟨ln,u,by omega,h2⟩
   ·rintro (h | ⟨ln,u,h1,h2,h3,h4,h5,h6⟩)
    ·exact .inl (.inl h)
    ·by_cases e:ln=line
     ·subst e; exact .inl (.inr ⟨u,h3,h4,h5,h6⟩)
     ·exact .inr ⟨ln,u,by omega,h2,h3,h4,h5,h6⟩
theorem implNarrowHidden_ok {k:Nat} (hk:2000010 ≤ k) {H:Hp} {ms:Sl} {l:List Int} {n:Int} (hb:-1 ≤ n∧n ≤ 5) (hm:Reads .i64 H ms l) (hnn:ms.nil=false) (hl:l.length ≤ 1000) (hr:∀ m ∈ l,-2 ≤ m∧m ≤ 63) :
  ∃ t H',callF PP orc k impl_NarrowHidden.id [.sl 1 ms,.int .i64 n] H=some (.sl 1 t,H')∧H <+: H'∧NilOr H H' t (hiddenV n l):=by
 obtain ⟨k,rfl⟩:=Zs k (by omega)
 rw [impl_NarrowHidden.call]
 have h1:=implMasksValid_ok (show 2000000 ≤ k by omega) hb hm hl hr
 have hml:=hm.len
 unfold hiddenV
 cases hv:masksOk n l with
 | false=>
  rw [hv] at h1
  rw [iN (by simp)]
  exact ⟨Sl.none,H,by simp only [impl_NarrowHidden.f,dt,df,bt,bf,nt,nf,Za,Zy,Zx,Zt,Zf,Zn,Zz,Zi,Zo,wr,AV.toB,AV.toI,AV.toS,if_true,h1],(List.prefix_refl _),.inl ⟨rfl,rfl⟩⟩
 | true=>
  rw [hv] at h1
  rw [ip rfl]
  obtain ⟨l4,l16,lN,hN,n2,n4⟩:=masks_len hv
  have hM:=masks_M hv
  have h2:=Clone_own (show 1 ≤ k by omega) hm hnn hl
  have hnew:=own_new 1 H (l.map (.int .i64)) l.length (by simp)
  obtain ⟨H',a',b1,b2,b3,b4⟩:=iHid_l0 (show 2000000 ≤ k by omega) hv hm (2 * n).toNat 0 k (H ++ [some (Blk.mk false (l.map (.int .i64)))]) l _ (by omega) (by omega) (List.prefix_append _ _) hnew (Sub.refl hM)
  have e:a'=subAll l (PH n l):=(b4.congr fun x w hx=>(show _ ↔ PH n l x w from ⟨by rintro (h | ⟨ln,u,_,h⟩); exact h.elim; exact ⟨ln,u,h⟩,fun ⟨ln,u,h⟩=>.inr ⟨ln,u,by omega,h⟩⟩)).eq hM
  subst e
  refine ⟨_,H',?_,b2,.inr b3⟩
  simp only [Int.natCast_zero] at b1
  simp (disch:=omega) only [impl_NarrowHidden.f,dt,df,Zy,Zf,AV.toB,AV.toS,if_true,Zo,h1,h2,wr (n:=2 * n),b1]
theorem line_len {n:Int} {l:List Int} (hv:masksOk n l=true) {line:Nat} (h:(line:Int) < 2 * n):(lineCells n line).length=n.toNat:=by
 obtain ⟨hn,_⟩:=masksOk_iff.1 hv
 unfold lineCells
 rw [if_pos ⟨hn,by omega,h⟩]
 simp
theorem Pairs_l9 (rec:Rec) (k:Nat) (L0:Sl→Int→Sl→Int→Hp→An) (L1:Sl→Int→Sl→Int→Sl→Int→Hp→An) (L3:Sl→Int→Sl→Int→Sl→Int→Int→Hp→An) {H0:Hp} {ms t cs:Sl} {l:List Int} {n m:Int} {line i jj:Nat} (hmk:masksOk n l=true) (hline:(line:Int) < 2 * n) (hcb:cs.blk ≠ t.blk) (hm:M m) (hjj:jj < 1000000) :
  ∀ (j q fuel:Nat) (H:Hp) (a:List Int) (P:Nat→Nat→Prop),(q:Int) + j=n→j < fuel→H0 <+: H→Reads .i64 H cs (lineCells n line)→Own 1 H0 H t (a.map (.int .i64))→Sub l a P →
   ∃ H' a',spec_NarrowPairs.l12 rec k L0 L1 L3 fuel ms n t line cs i jj m q H=L3 ms n t line cs i ((jj:Int) + 1) H'∧H0 <+: H'∧Own 1 H0 H' t (a'.map (.int .i64))∧Adv t.blk H H'∧Sub l a' (fun x w=>P x w ∨ ∃ u:Nat,q ≤ u∧(u:Int) < n∧u ≠ i∧u ≠ jj∧x=lc n line u∧has m w=true):=by
 obtain ⟨l4,l16,lN,hN,n2,n4⟩:=masks_len hmk
 have hll:=line_len hmk hline
 intro j
 induction j with
 | zero=>
  intro q fuel H a P hq hf hp hc ho hs
  obtain ⟨fuel,rfl⟩:=Zs fuel (by omega)
  refine ⟨H,a,?_,hp,ho,Adv.refl _ _,hs.congr fun x w hx=>⟨.inl,by rintro (h | ⟨u,h1,h2,_⟩); exact h; omega⟩⟩
  simp (disch:=omega) only [spec_NarrowPairs.l12,spec_NarrowPairs.j10,dt,df,bt,bf,nt,nf,Za,Zy,Zx,Zt,Zf,Zn,Zz,Zi,Zo,wr,AV.toB,AV.toI,AV.toS,if_true]
 | succ j ih=>
  intro q fuel H a P hq hf hp hc ho hs
  obtain ⟨fuel,rfl⟩:=Zs fuel (by omega)
  have hal:=hs.len
  have htl:t.len=a.length:=by have:=ho.len; simpa using this
  have hcl:=hc.len
  have hq2:q < (lineCells n line).length:=by omega
  obtain ⟨c0,c1,c2⟩:=line_in hmk (mem_getD hq2)
  by_cases c:q ≠ i∧q ≠ jj
  ·obtain ⟨H1,d1,d2,d3,d4⟩:=own_set1 ho hp ((lineCells n line).getD q 0).toNat (by omega) (mSub (a.getD ((lineCells n line).getD q 0).toNat 0) m)
   obtain ⟨H',a',e1,e2,e3,e4,e5⟩:=ih (q + 1) fuel H1 _ _ (by omega) (by omega) d2 (d4.reads hcb hc) d3 (hs.step _ c1 hm)
   push_cast at e1
   refine ⟨H',a',?_,e2,e3,d4.trans e4,e5.congr fun x w hx=>?_⟩
   ·simp (disch:=omega) only [spec_NarrowPairs.l12,spec_NarrowPairs.j13,spec_NarrowPairs.j14,spec_NarrowPairs.j15,spec_NarrowPairs.j16,spec_NarrowPairs.j17,dt,nt,Za,Zt,Zn,Zo,rdn hc,rdn (own_reads ho),m_sub (hs.ms.at _) hm,d1,wr (n:=(q:Int) + 1),e1]
   ·constructor
    ·rintro ((h | ⟨h1,h2⟩) | ⟨u,h1,h2⟩)
     ·exact .inl h
     ·exact .inr ⟨q,Nat.le_refl _,by omega,c.1,c.2,h1,h2⟩
     ·exact .inr ⟨u,by omega,h2⟩
    ·rintro (h | ⟨u,h1,h2,h3,h4,h5,h6⟩)
     ·exact .inl (.inl h)
     ·by_cases e:u=q
      ·subst e; exact .inl (.inr ⟨h5,h6⟩)
      ·exact .inr ⟨u,by omega,h2,h3,h4,h5,h6⟩
  ·obtain ⟨H',a',e1,e2,e3,e4,e5⟩:=ih (q + 1) fuel H a P (by omega) (by omega) hp hc ho hs
   push_cast at e1
   refine ⟨H',a',?_,e2,e3,e4,e5.congr fun x w hx=>?_⟩
   ·by_cases c1':q=i
    ·simp (disch:=omega) only [spec_NarrowPairs.l12,spec_NarrowPairs.j13,spec_NarrowPairs.j14,spec_NarrowPairs.j15,spec_NarrowPairs.j16,spec_NarrowPairs.j17,dt,nf,Zt,Zf,wr (n:=(q:Int) + 1),e1]
    ·simp (disch:=omega) only [spec_NarrowPairs.l12,spec_NarrowPairs.j13,spec_NarrowPairs.j14,spec_NarrowPairs.j15,spec_NarrowPairs.j16,spec_NarrowPairs.j17,dt,nt,nf,Zt,Zf,wr (n:=(q:Int) + 1),e1]
   ·constructor
    ·rintro (h | ⟨u,h1,h2⟩)
     ·exact .inl h
     ·exact .inr ⟨u,by omega,h2⟩
    ·rintro (h | ⟨u,h1,h2,h3,h4,h5,h6⟩)
     ·exact .inl h
     ·refine .inr ⟨u,?_,h2,h3,h4,h5,h6⟩
      by_cases e:u=q
      ·subst e; exact absurd ⟨h3,h4⟩ c
      ·omega
def PQ2 (n:Int) (l:List Int) (line i j x w:Nat):Prop:=l.getD (lc n line i) 0=l.getD (lc n line j) 0∧two (l.getD (lc n line i) 0)=true∧∃ u:Nat,(u:Int) < n∧u ≠ i∧u ≠ j∧x=lc n line u∧has (l.getD (lc n line i) 0) w=true
theorem Pairs_l3 {k:Nat} (hk:2000000 ≤ k) (L0:Sl→Int→Sl→Int→Hp→An) (L1:Sl→Int→Sl→Int→Sl→Int→Hp→An) {H0:Hp} {ms t cs:Sl} {l:List Int} {n:Int} {line i:Nat} (hmk:masksOk n l=true) (hm:Reads .i64 H0 ms l) (hline:(line:Int) < 2 * n) (hi:(i:Int) < n) :
  ∀ (j q fuel:Nat) (H:Hp) (a:List Int) (P:Nat→Nat→Prop),q + j=i→j < fuel→H0 <+: H→Reads .i64 H cs (lineCells n line)→cs.blk ≠ t.blk→Own 1 H0 H t (a.map (.int .i64))→Sub l a P →
   ∃ H' a',spec_NarrowPairs.l3 (callF Ab.PP orc k) k L0 L1 fuel ms n t line cs i q H=L1 ms n t line cs ((i:Int) + 1) H'∧H0 <+: H'∧Own 1 H0 H' t (a'.map (.int .i64))∧Adv t.blk H H'∧Sub l a' (fun x w=>P x w ∨ ∃ u:Nat,q ≤ u∧u < i∧PQ2 n l line i u x w):=by
 obtain ⟨l4,l16,lN,hN,n2,n4⟩:=masks_len hmk
 have hll:=line_len hmk hline
 have hM:=masks_M hmk
 have hml:=hm.len
 intro j
 induction j with
 | zero=>
  intro q fuel H a P hq hf hp hc hcb ho hs
  obtain ⟨fuel,rfl⟩:=Zs fuel (by omega)
  refine ⟨H,a,?_,hp,ho,Adv.refl _ _,hs.congr fun x w hx=>⟨.inl,by rintro (h | ⟨u,h1,h2,_⟩); exact h; omega⟩⟩
  simp (disch:=omega) only [spec_NarrowPairs.l3,spec_NarrowPairs.j6,dt,df,bt,bf,nt,nf,Za,Zy,Zx,Zt,Zf,Zn,Zz,Zi,Zo,wr,AV.toB,AV.toI,AV.toS,if_true]
 | succ j ih=>
  intro q fuel H a P hq hf hp hc hcb ho hs
  obtain ⟨fuel,rfl⟩:=Zs fuel (by omega)
  have hcl:=hc.len
  obtain ⟨c0,c1,c2⟩:=line_in hmk (mem_getD (show q < (lineCells n line).length by omega))
  obtain ⟨f0,f1,f2⟩:=line_in hmk (mem_getD (show i < (lineCells n line).length by omega))
  have hrd:=pf_reads hp hm
  have e0:∀ z,l.getD ((lineCells n line).getD z 0).toNat 0=l.getD (lc n line z) 0:=fun z=>rfl
  by_cases ce:l.getD (lc n line i) 0=l.getD (lc n line q) 0
  ·obtain ⟨u,H1,a1,a2,a3⟩:=MaskValues_ok hk (l.getD (lc n line i) 0) H
   have hul:=(own_reads a3).len
   have hc1:=pf_reads a2 hc
   by_cases c3:(maskVals (l.getD (lc n line i) 0)).length=2
   ·obtain ⟨H2,a',b1,b2,b3,b4,b5⟩:=Pairs_l9 (callF Ab.PP orc k) k L0 L1 (spec_NarrowPairs.l3 (callF Ab.PP orc k) k L0 L1 fuel) (ms:=ms) (i:=i) (jj:=q) hmk hline hcb (hM.at (lc n line i)) (by omega) n.toNat 0 k H1 a P (by omega) (by omega) (hp.trans a2) hc1 (own_pf ho a2) hs
    obtain ⟨H',a'',d1,d2,d3,d4,d5⟩:=ih (q + 1) fuel H2 a' _ (by omega) (by omega) b2 (b4.reads hcb hc1) hcb b3 b5
    push_cast at d1
    refine ⟨H',a'',?_,d2,d3,((pf_adv a2).trans b4).trans d4,d5.congr fun x w hx=>?_⟩
    ·simp only [Int.natCast_zero] at b1
     simp (disch:=omega) only [spec_NarrowPairs.l3,spec_NarrowPairs.j5,spec_NarrowPairs.j7,spec_NarrowPairs.j8,spec_NarrowPairs.j9,spec_NarrowPairs.j10,spec_NarrowPairs.j11,dt,df,bt,bf,nt,nf,Za,Zy,Zx,Zt,Zf,Zn,Zz,Zi,Zo,wr,AV.toB,AV.toI,AV.toS,if_true,rdn hc,rdn hrd,e0,a1,hul,b1,d1]
    ·have ht:two (l.getD (lc n line i) 0)=true:=by unfold two; rw [c3]; rfl
     constructor
     ·rintro ((h | ⟨u,h1,h2,h3,h4,h5,h6⟩) | ⟨u,h1,h2⟩)
      ·exact .inl h
      ·exact .inr ⟨q,Nat.le_refl _,by omega,ce,ht,u,h2,h3,h4,h5,h6⟩
      ·exact .inr ⟨u,by omega,h2⟩
     ·rintro (h | ⟨u,h1,h2,h3,h4,z,h5,h6,h7,h8,h9⟩)
      ·exact .inl (.inl h)
      ·by_cases e:u=q
       ·subst e; exact .inl (.inr ⟨z,by omega,h5,h6,h7,h8,h9⟩)
       ·exact .inr ⟨u,by omega,h2,h3,h4,z,h5,h6,h7,h8,h9⟩
   ·obtain ⟨H',a'',d1,d2,d3,d4,d5⟩:=ih (q + 1) fuel H1 a P (by omega) (by omega) (hp.trans a2) hc1 hcb (own_pf ho a2) hs
    push_cast at d1
    refine ⟨H',a'',?_,d2,d3,(pf_adv a2).trans d4,d5.congr fun x w hx=>?_⟩
    ·simp (disch:=omega) only [spec_NarrowPairs.l3,spec_NarrowPairs.j5,spec_NarrowPairs.j7,spec_NarrowPairs.j8,spec_NarrowPairs.j9,spec_NarrowPairs.j10,spec_NarrowPairs.j11,dt,df,bt,bf,nt,nf,Za,Zy,Zx,Zt,Zf,Zn,Zz,Zi,Zo,wr,AV.toB,AV.toI,AV.toS,if_true,rdn hc,rdn hrd,e0,a1,hul,d1]
    ·have ht:¬ two (l.getD (lc n line i) 0)=true:=by unfold two; rw [beq_iff_eq]; exact c3
     constructor
     ·rintro (h | ⟨u,h1,h2⟩)
      ·exact .inl h
      ·exact .inr ⟨u,by omega,h2⟩
     ·rintro (h | ⟨u,h1,h2,h3,h4,h5⟩)
      ·exact .inl h
      ·exact absurd h4 ht
  ·obtain ⟨H',a'',d1,d2,d3,d4,d5⟩:=ih (q + 1) fuel H a P (by omega) (by omega) hp hc hcb ho hs
   push_cast at d1
   refine ⟨H',a'',?_,d2,d3,d4,d5.congr fun x w hx=>?_⟩
   ·simp (disch:=omega) only [spec_NarrowPairs.l3,spec_NarrowPairs.j5,spec_NarrowPairs.j7,spec_NarrowPairs.j8,spec_NarrowPairs.j9,spec_NarrowPairs.j10,spec_NarrowPairs.j11,dt,Za,Zt,Zn,Zo,rdn hc,rdn hrd,e0,nt ce,wr (n:=(q:Int) + 1),d1]
   ·constructor
    ·rintro (h | ⟨u,h1,h2⟩)
     ·exact .inl h
     ·exact .inr ⟨u,by omega,h2⟩
    ·rintro (h | ⟨u,h1,h2,h3,h4⟩)
     ·exact .inl h
     ·refine .inr ⟨u,?_,h2,h3,h4⟩
      by_cases e:u=q
      ·subst e; exact absurd h3 ce
      ·omega
theorem Pairs_l1 {k:Nat} (hk:2000000 ≤ k) (L0:Sl→Int→Sl→Int→Hp→An) {H0:Hp} {ms t cs:Sl} {l:List Int} {n:Int} {line:Nat} (hmk:masksOk n l=true) (hm:Reads .i64 H0 ms l) (hline:(line:Int) < 2 * n) (hcb:cs.blk ≠ t.blk) :
  ∀ (j q fuel:Nat) (H:Hp) (a:List Int) (P:Nat→Nat→Prop),(q:Int) + j=n→j < fuel→H0 <+: H→Reads .i64 H cs (lineCells n line)→Own 1 H0 H t (a.map (.int .i64))→Sub l a P →
   ∃ H' a',spec_NarrowPairs.l1 (callF Ab.PP orc k) k L0 fuel ms n t line cs q H=L0 ms n t ((line:Int) + 1) H'∧H0 <+: H'∧Own 1 H0 H' t (a'.map (.int .i64))∧Sub l a' (fun x w=>P x w ∨ ∃ i u:Nat,q ≤ i∧(i:Int) < n∧u < i∧PQ2 n l line i u x w):=by
 obtain ⟨l4,l16,lN,hN,n2,n4⟩:=masks_len hmk
 intro j
 induction j with
 | zero=>
  intro q fuel H a P hq hf hp hc ho hs
  obtain ⟨fuel,rfl⟩:=Zs fuel (by omega)
  refine ⟨H,a,?_,hp,ho,hs.congr fun x w hx=>⟨.inl,by rintro (h | ⟨i,u,h1,h2,_⟩); exact h; omega⟩⟩
  simp (disch:=omega) only [spec_NarrowPairs.l1,spec_NarrowPairs.j4,dt,df,bt,bf,nt,nf,Za,Zy,Zx,Zt,Zf,Zn,Zz,Zi,Zo,wr,AV.toB,AV.toI,AV.toS,if_true]
 | succ j ih=>
  intro q fuel H a P hq hf hp hc ho hs
  obtain ⟨fuel,rfl⟩:=Zs fuel (by omega)
  obtain ⟨H1,a',b1,b2,b3,b4,b5⟩:=Pairs_l3 hk L0 (spec_NarrowPairs.l1 (callF Ab.PP orc k) k L0 fuel) (cs:=cs) (i:=q) hmk hm hline (by omega) q 0 k H a P (by omega) (by omega) hp hc hcb ho hs
  obtain ⟨H',a'',d1,d2,d3,d4⟩:=ih (q + 1) fuel H1 a' _ (by omega) (by omega) b2 (b4.reads hcb hc) b3 b5
  push_cast at d1
  refine ⟨H',a'',?_,d2,d3,d4.congr fun x w hx=>?_⟩
  ·simp only [Int.natCast_zero] at b1
   simp (disch:=omega) only [spec_NarrowPairs.l1,dt,df,bt,bf,nt,nf,Za,Zy,Zx,Zt,Zf,Zn,Zz,Zi,Zo,wr,AV.toB,AV.toI,AV.toS,if_true,b1,d1]
  ·constructor
   ·rintro ((h | ⟨u,h1,h2,h3⟩) | ⟨i,u,h1,h2⟩)
    ·exact .inl h
    ·exact .inr ⟨q,u,Nat.le_refl _,by omega,h2,h3⟩
    ·exact .inr ⟨i,u,by omega,h2⟩
   ·rintro (h | ⟨i,u,h1,h2,h3,h4⟩)
    ·exact .inl (.inl h)
    ·by_cases e:i=q
     ·subst e; exact .inl (.inr ⟨u,by omega,h3,h4⟩)
     ·exact .inr ⟨i,u,by omega,h2,h3,h4⟩
theorem Pairs_l0 {k:Nat} (hk:2000000 ≤ k) {H0:Hp} {ms t:Sl} {l:List Int} {n:Int} (hmk:masksOk n l=true) (hm:Reads .i64 H0 ms l) :
  ∀ (j line fuel:Nat) (H:Hp) (a:List Int) (P:Nat→Nat→Prop),(line:Int) + j=2 * n→j < fuel→H0 <+: H→Own 1 H0 H t (a.map (.int .i64))→Sub l a P →
   ∃ H' a',spec_NarrowPairs.l0 (callF Ab.PP orc k) k fuel ms n t line H=some (.sl 1 t,H')∧H0 <+: H'∧Own 1 H0 H' t (a'.map (.int .i64))∧Sub l a' (fun x w=>P x w ∨ ∃ ln i u:Nat,line ≤ ln∧(ln:Int) < 2 * n∧(i:Int) < n∧u < i∧PQ2 n l ln i u x w):=by
 obtain ⟨l4,l16,lN,hN,n2,n4⟩:=masks_len hmk
 intro j
 induction j with
 | zero=>
  intro line fuel H a P hl hf hp ho hs
  obtain ⟨fuel,rfl⟩:=Zs fuel (by omega)
  refine ⟨H,a,?_,hp,ho,hs.congr fun x w hx=>⟨.inl,by rintro (h | ⟨ln,i,u,h1,h2,_⟩); exact h; omega⟩⟩
  simp (disch:=omega) only [spec_NarrowPairs.l0,spec_NarrowPairs.j2,dt,df,bt,bf,nt,nf,Za,Zy,Zx,Zt,Zf,Zn,Zz,Zi,Zo,wr,AV.toB,AV.toI,AV.toS,if_true]
 | succ j ih=>
  intro line fuel H a P hl hf hp ho hs
  obtain ⟨fuel,rfl⟩:=Zs fuel (by omega)
  obtain ⟨cs,H1,a1,a2,a3⟩:=specLineCells_own hk n (line:Int) H
  have hcb:cs.blk ≠ t.blk:=by have:=a3.blk; have:=own_lt' ho; omega
  obtain ⟨H2,a',b1,b2,b3,b4⟩:=Pairs_l1 hk (spec_NarrowPairs.l0 (callF Ab.PP orc k) k fuel) hmk hm (by omega) hcb n.toNat 0 k H1 a P (by omega) (by omega) (hp.trans a2) (own_reads a3) (own_pf ho a2) hs
  obtain ⟨H',a'',d1,d2,d3,d4⟩:=ih (line + 1) fuel H2 a' _ (by omega) (by omega) b2 b3 b4
  push_cast at d1
  refine ⟨H',a'',?_,d2,d3,d4.congr fun x w hx=>?_⟩
  ·simp only [Int.natCast_zero] at b1
   simp (disch:=omega) only [spec_NarrowPairs.l0,dt,df,bt,bf,nt,nf,Za,Zy,Zx,Zt,Zf,Zn,Zz,Zi,Zo,wr,AV.toB,AV.toI,AV.toS,if_true,a1,b1,d1]
  ·constructor
   ·rintro ((h | ⟨i,u,h1,h2,h3,h4⟩) | ⟨ln,i,u,h1,h2⟩)
    ·exact .inl h
    ·exact .inr ⟨line,i,u,Nat.le_refl _,by omega,h2,h3,h4⟩
    ·exact .inr ⟨ln,i,u,by omega,h2⟩
   ·rintro (h | ⟨ln,i,u,h1,h2,h3,h4,h5⟩)
    ·exact .inl (.inl h)
    ·by_cases e:ln=line
     ·subst e; exact .inl (.inr ⟨i,u,by omega,h3,h4,h5⟩)
     ·exact .inr ⟨ln,i,u,by omega,h2,h3,h4,h5⟩
theorem PQ_iff {n:Int} {l:List Int} {x w:Nat}:PQ n l x w ↔ ∃ ln i u:Nat,(ln:Int) < 2 * n∧(i:Int) < n∧u < i∧PQ2 n l ln i u x w:=by
 constructor
 ·rintro ⟨ln,i,j,k,h1,h2,h3,h4,h5,h6,h7,h8,h9,h10⟩
  exact ⟨ln,i,j,h1,h3,h2,h7,h8,k,h4,h5,h6,h9,h10⟩
 ·rintro ⟨ln,i,j,h1,h3,h2,h7,h8,k,h4,h5,h6,h9,h10⟩
  exact ⟨ln,i,j,k,h1,h2,h3,h4,h5,h6,h7,h8,h9,h10⟩
theorem specNarrowPairs_ok {k:Nat} (hk:2000010 ≤ k) {H:Hp} {ms:Sl} {l:List Int} {n:Int} (hb:-1 ≤ n∧n ≤ 5) (hm:Reads .i64 H ms l) (hl:l.length ≤ 1000) :
  ∃ t H',callF Ab.PP orc k spec_NarrowPairs.id [.sl 1 ms,.int .i64 n] H=some (.sl 1 t,H')∧H <+: H'∧Own 1 H H' t ((pairsV n l).map (.int .i64)):=by
 obtain ⟨k,rfl⟩:=Zs k (by omega)
 rw [spec_NarrowPairs.call]
 have h1:=specMasksValid_any (show 2000000 ≤ k by omega) hb hm hl
 unfold pairsV
 cases hv:masksOk n l with
 | false=>
  rw [hv] at h1
  rw [iN (by simp)]
  exact ⟨Sl.mk false H.length 0 0,H ++ [some (Blk.mk false [])],by simp only [spec_NarrowPairs.f,dt,df,bt,bf,nt,nf,Za,Zy,Zx,Zt,Zf,Zn,Zz,Zi,Zo,wr,AV.toB,AV.toI,AV.toS,if_true,h1],(List.prefix_append _ _),own_new 1 H [] 0 rfl⟩
 | true=>
  rw [hv] at h1
  rw [ip rfl]
  obtain ⟨l4,l16,lN,hN,n2,n4⟩:=masks_len hv
  have hM:=masks_M hv
  have h2:=l6Copy_ok (show 1 ≤ k by omega) hm hl
  have hnew:=own_new 1 H (l.map (.int .i64)) l.length (by simp)
  obtain ⟨H',a',b1,b2,b3,b4⟩:=Pairs_l0 (show 2000000 ≤ k by omega) hv hm (2 * n).toNat 0 k (H ++ [some (Blk.mk false (l.map (.int .i64)))]) l _ (by omega) (by omega) (List.prefix_append _ _) hnew (Sub.refl hM)
  have e:a'=subAll l (PQ n l):=(b4.congr fun x w hx=>(show _ ↔ PQ n l x w from by
   rw [PQ_iff]
   constructor
   ·rintro (h | ⟨ln,i,u,_,h⟩)
    ·exact h.elim
    ·exact ⟨ln,i,u,h⟩
   ·rintro ⟨ln,i,u,h⟩
    exact .inr ⟨ln,i,u,by omega,h⟩)).eq hM
  subst e
  refine ⟨_,H',?_,b2,b3⟩
  simp only [Int.natCast_zero] at b1
  simp only [spec_NarrowPairs.f,dt,df,bt,bf,nt,nf,Za,Zy,Zx,Zt,Zf,Zn,Zz,Zi,Zo,wr,AV.toB,AV.toI,AV.toS,if_true,h1,h2,b1]
theorem AllIn_pt:∀ (ms ws:List Int),AllIn ms ws ↔ ws.length=ms.length∧∀ i,i < ms.length→ws.getD i 0 ∈ maskVals (ms.getD i 0)
 | [],[]=>by simp [AllIn]
 | [],w :: ws=>by simp [AllIn]
 | m :: ms,[]=>by simp [AllIn]
 | m :: ms,w :: ws=>by
  show (w ∈ maskVals m∧AllIn ms ws) ↔ _
  rw [AllIn_pt ms ws]
  constructor
  ·rintro ⟨h1,h2,h3⟩
   refine ⟨by simpa using h2,fun i hi=>?_⟩
   cases i with
   | zero=>simpa using h1
   | succ i=>simpa using h3 i (by simpa using hi)
  ·rintro ⟨h1,h2⟩
   refine ⟨by simpa using h2 0 (by simp),by simpa using h1,fun i hi=>?_⟩
   simpa using h2 (i + 1) (by simpa using hi)
theorem own_len (masks cells:List Int):(ownOf masks cells).length=cells.length:=by simp [ownOf]
theorem own_at {masks cells:List Int} {i:Nat} (hi:i < cells.length):(ownOf masks cells).getD i 0=masks.getD (cells.getD i 0).toNat 0:=by
 unfold ownOf
 rw [List.getD_eq_getElem?_getD,List.getElem?_map,List.getElem?_eq_getElem hi,List.getD_eq_getElem?_getD (l:=cells),List.getElem?_eq_getElem hi]; rfl
theorem cells_ne {n:Int} {r:V} (h:ruleOkV n r=true) {a b:Nat} (ha:a < r.2.1.length) (hb:b < r.2.1.length) (hab:a ≠ b):(r.2.1.getD a 0).toNat ≠ (r.2.1.getD b 0).toNat:=by
 obtain ⟨c1,_⟩:=ruleOk_cells h
 unfold ruleOkV ruleOk at h
 rw [Bool.and_eq_true] at h
 have hd:∀ a b,a < b→b < r.2.1.length→r.2.1.getD a 0 ≠ r.2.1.getD b 0:=fun a b h1 h2 he=>by
  have:=(cellsOk_at _ _ h.1 b (by omega) (by omega)).2
  rw [← he,← Bool.not_eq_true,List.contains_iff_mem] at this
  apply this
  have:(r.2.1.take b).getD a 0=r.2.1.getD a 0:=by
   rw [List.getD_eq_getElem?_getD,List.getElem?_take,if_pos h1,← List.getD_eq_getElem?_getD]
  rw [← this]
  exact mem_getD (by rw [List.length_take]; omega)
 have p1:=c1 _ (mem_getD ha)
 have p2:=c1 _ (mem_getD hb)
 rcases Nat.lt_or_gt_of_ne hab with e | e
 ·have:=hd a b e hb; omega
 ·have:=hd b a e ha; omega
theorem setAll_at {cells found:List Int}:∀ (j i:Nat) (l:List Int),i + j ≤ cells.length→(∀ a b,a < cells.length→b < cells.length→a ≠ b→(cells.getD a 0).toNat ≠ (cells.getD b 0).toNat)→(∀ a,a < cells.length→(cells.getD a 0).toNat < l.length) →
  (setAll cells l found i j).length=l.length∧(∀ u,i ≤ u→u < i + j→(setAll cells l found i j).getD (cells.getD u 0).toNat 0=found.getD u 0)∧(∀ x,(∀ u,i ≤ u→u < i + j→(cells.getD u 0).toNat ≠ x)→(setAll cells l found i j).getD x 0=l.getD x 0)
 | 0,i,l,_,_,_=>⟨rfl,fun u h1 h2=>by omega,fun x _=>rfl⟩
 | j + 1,i,l,hi,hd,hl=>by
  obtain ⟨a,b,c⟩:=setAll_at (found:=found) j (i + 1) (l.set (cells.getD i 0).toNat (found.getD i 0)) (by omega) hd (fun x hx=>by rw [List.length_set]; exact hl x hx)
  rw [setAll]
  refine ⟨by rw [a,List.length_set],fun u h1 h2=>?_,fun x hx=>?_⟩
  ·by_cases e:u=i
   ·subst e
    rw [c _ (fun w h3 h4=>hd w u (by omega) (by omega) (by omega)),getD_set,if_pos ⟨rfl,hl u (by omega)⟩]
   ·exact b u (by omega) (by omega)
  ·rw [c x (fun u h1 h2=>hx u (by omega) (by omega)),getD_set,if_neg (fun h=>hx i (Nat.le_refl _) (by omega) h.1)]
theorem ruleMasks_S {n:Int} {r:V} {l:List Int} (hr:ruleOkV n r=true) (hl:masksOk n l=true):ruleMasksS n r.1 r.2.2 r.2.1 l=ruleMasksV r.1 r.2.2 (ownOf l r.2.1):=by
 unfold ruleMasksS
 rw [if_pos ⟨by unfold ruleOkV at hr; rw [hr,decide_eq_true (masksOk_iff.1 hl).1]; rfl,hl⟩]
def RS (l:List Int) (r:V) (x v:Nat):Prop:=∃ u,u < r.2.1.length∧(r.2.1.getD u 0).toNat=x∧¬ ∃ ws,AllIn (ownOf l r.2.1) ws∧holdsV r.1 r.2.2 ws=true∧ws.getD u 0=(v:Int)
theorem rule_cells {n:Int} {r:V} {l:List Int} (hr:ruleOkV n r=true) (hl:masksOk n l=true) {u:Nat} (hu:u < r.2.1.length):(r.2.1.getD u 0).toNat < l.length:=by
 obtain ⟨c1,_⟩:=ruleOk_cells hr
 have:=c1 _ (mem_getD hu)
 have:=(masksOk_iff.1 hl).2.2
 omega
theorem ruleStep_sub {n:Int} {r:V} {l:List Int} (hr:ruleOkV n r=true) (hl:masksOk n l=true):Sub l (ruleStep n l r) (RS l r):=by
 obtain ⟨c1,c2,c3,c4⟩:=ruleOk_cells hr
 have hol:=own_len l r.2.1
 have hrm:=ruleMasks_ok (kind:=r.1) (value:=r.2.2) (own:=ownOf l r.2.1) (by omega)
 unfold ruleStep
 rw [ruleMasks_S hr hl]
 obtain ⟨s1,s2,s3⟩:=setAll_at (found:=ruleMasksV r.1 r.2.2 (ownOf l r.2.1)) r.2.1.length 0 l (by omega) (fun a b ha hb=>cells_ne hr ha hb) (fun a ha=>rule_cells hr hl ha)
 have hM:=masks_M hl
 have at1:∀ u,u < r.2.1.length→∀ v:Nat,has ((setAll r.2.1 l (ruleMasksV r.1 r.2.2 (ownOf l r.2.1)) 0 r.2.1.length).getD (r.2.1.getD u 0).toNat 0) v=true ↔ ∃ ws,AllIn (ownOf l r.2.1) ws∧holdsV r.1 r.2.2 ws=true∧ws.getD u 0=(v:Int):=fun u hu v=>by
  rw [s2 u (by omega) (by omega)]
  exact ruleMasks_has (by omega) u v (by omega)
 refine ⟨s1,fun m hm=>?_,fun x v hx=>?_⟩
 ·obtain ⟨i,hi,rfl⟩:=List.getElem_of_mem hm
  have e:(setAll r.2.1 l (ruleMasksV r.1 r.2.2 (ownOf l r.2.1)) 0 r.2.1.length).getD i 0=(setAll r.2.1 l (ruleMasksV r.1 r.2.2 (ownOf l r.2.1)) 0 r.2.1.length)[i]:=by simp [List.getD_eq_getElem?_getD,hi]
  rw [← e]
  by_cases c:∃ u,u < r.2.1.length∧(r.2.1.getD u 0).toNat=i
  ·obtain ⟨u,hu,rfl⟩:=c
   rw [s2 u (by omega) (by omega)]
   exact hrm.1.at u
  ·rw [s3 i (fun u _ h2 h3=>c ⟨u,by omega,h3⟩)]
   exact hM.at i
 ·by_cases c:∃ u,u < r.2.1.length∧(r.2.1.getD u 0).toNat=x
  ·obtain ⟨u,hu,rfl⟩:=c
   rw [at1 u hu v]
   constructor
   ·rintro ⟨ws,h1,h2,h3⟩
    have:=((AllIn_pt _ _).1 h1).2 u (by omega)
    rw [own_at hu,h3] at this
    refine ⟨(mv_has (masks_at hl hx) v).2 this,?_⟩
    rintro ⟨w,hw,he,hn⟩
    have:w=u:=by
     apply Classical.byContradiction
     intro hne
     exact cells_ne hr hw hu hne he
    subst this
    exact hn ⟨ws,h1,h2,h3⟩
   ·rintro ⟨h1,h2⟩
    apply Classical.byContradiction
    intro h3
    exact h2 ⟨u,hu,rfl,h3⟩
  ·rw [s3 x (fun u _ h2 h3=>c ⟨u,by omega,h3⟩)]
   constructor
   ·intro h; exact ⟨h,by rintro ⟨u,hu,he,_⟩; exact c ⟨u,hu,he⟩⟩
   ·intro h; exact h.1
theorem rules_fold {n:Int}:∀ (vs:List V) (l:List Int),(∀ r ∈ vs,ruleOkV n r=true)→masksOk n l=true→masksOk n (vs.foldl (ruleStep n) l)=true∧SubM (vs.foldl (ruleStep n) l) l
 | [],l,_,hl=>⟨hl,SubM.refl l⟩
 | r :: vs,l,hv,hl=>by
  have h1:=ruleStep_sub (hv r (by simp)) hl
  obtain ⟨a,b⟩:=rules_fold vs (ruleStep n l r) (fun q hq=>hv q (List.mem_cons_of_mem _ hq)) (h1.ok hl)
  exact ⟨a,b.trans h1.subM⟩
/-! ### All techniques -/
theorem subAll_good {n:Int} {l:List Int} (hl:masksOk n l=true) (P:Nat→Nat→Prop):masksOk n (subAll l P)=true∧SubM (subAll l P) l:=⟨(subAll_ok (masks_M hl) P).ok hl,(subAll_ok (masks_M hl) P).subM⟩
theorem singlesV_good {n:Int} {l:List Int} (hl:masksOk n l=true):masksOk n (singlesV n l)=true∧SubM (singlesV n l) l:=by
 unfold singlesV; rw [if_pos hl]; exact subAll_good hl _
theorem hiddenV_good {n:Int} {l:List Int} (hl:masksOk n l=true):masksOk n (hiddenV n l)=true∧SubM (hiddenV n l) l:=by
 unfold hiddenV; rw [if_pos hl]; exact subAll_good hl _
theorem pairsV_good {n:Int} {l:List Int} (hl:masksOk n l=true):masksOk n (pairsV n l)=true∧SubM (pairsV n l) l:=by
 unfold pairsV; rw [if_pos hl]; exact subAll_good hl _
theorem puzzleV_rules {n:Int} {given:List Int} {vs:List V} (hp:puzzleV n given vs=true):∀ r ∈ vs,ruleOkV n r=true:=List.all_eq_true.1 (puzzleV_grid hp).2
theorem rulesV_good {n:Int} {given:List Int} {vs:List V} (hp:puzzleV n given vs=true) {l:List Int} (hl:masksOk n l=true):masksOk n (rulesV n given vs l)=true∧SubM (rulesV n given vs l) l:=by
 unfold rulesV; rw [if_pos ⟨hp,hl⟩]; exact rules_fold vs l (puzzleV_rules hp) hl
theorem narrowV_cases {n:Int} {given:List Int} {vs:List V} (hp:puzzleV n given vs=true) {l:List Int} (hl:masksOk n l=true):narrowV n given vs l 1=singlesV n l∧narrowV n given vs l 2=hiddenV n l∧narrowV n given vs l 3=pairsV n l∧narrowV n given vs l 4=rulesV n given vs l:=by
 refine ⟨?_,?_,?_,?_⟩ <;> (unfold narrowV; rw [if_pos ⟨hp,hl⟩]; simp)
theorem narrow_good {n:Int} {given:List Int} {vs:List V} (hp:puzzleV n given vs=true) {most:Nat} (hm:most ≤ 4):Good (narrowV n given vs) n most:=fun l t hl h1 h2=>by
 obtain ⟨c1,c2,c3,c4⟩:=narrowV_cases hp hl
 have:t=1 ∨ t=2 ∨ t=3 ∨ t=4:=by omega
 rcases this with rfl | rfl | rfl | rfl
 ·rw [c1]; exact singlesV_good hl
 ·rw [c2]; exact hiddenV_good hl
 ·rw [c3]; exact pairsV_good hl
 ·rw [c4]; exact rulesV_good hp hl
def peerB (n line a b:Nat):Bool:=!(decide (2 ≤ n) && (decide (line < 2 * n) && (decide (a < n) && (decide (b < n) && !(a == b))))) || (!(lc n line a == lc n line b) && (lc n line a / n == lc n line b / n || lc n line a % n == lc n line b % n))
theorem tab_peer:∀ n:Nat,n < 5→∀ line:Nat,line < 8→∀ a:Nat,a < 4→∀ b:Nat,b < 4→peerB n line a b=true:=by decide +kernel
theorem lc_peer {n:Int} (hn:2 ≤ n∧n ≤ 4) {line a b:Nat} (hl:(line:Int) < 2 * n) (ha:(a:Int) < n) (hb:(b:Int) < n) (hab:a ≠ b):peer n.toNat (lc n line a) (lc n line b):=by
 have:=tab_peer n.toNat (by omega) line (by omega) a (by omega) b (by omega)
 unfold peerB at this
 rw [decide_eq_true (show 2 ≤ n.toNat by omega),decide_eq_true (show line < 2 * n.toNat by omega),decide_eq_true (show a < n.toNat by omega),decide_eq_true (show b < n.toNat by omega),show (a == b)=false by simpa using hab,show ((n.toNat:Nat):Int)=n by omega] at this
 simp only [Zx,Za,Zy,Bool.false_or,Bool.and_eq_true,Bool.not_eq_true',beq_eq_false_iff_ne,Bool.or_eq_true,beq_iff_eq] at this
 exact this
end Go.Proofs.Ytchliocobgkmbaa.Rp
