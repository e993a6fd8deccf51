/- Texts for the row of the law FnNarrowCandidates, part 11: the plain machine, the program's functions on it, what they come to. No conditions. -/
import Derived.Test.YtjojhbdghhmeeaaBuFnNarrowCandidates10
import Derived.Test.YtjojhbdghhmeeaaBuFnNarrowCandidates6
import Derived.Test.YtjojhbdghhmeeaaBuFnNarrowCandidates8
import Derived.Test.YtjojhbdghhmeeaaBuFnNarrowCandidates7
set_option linter.unusedVariables false
set_option linter.unusedSimpArgs false
namespace Go.Proofs.Ytjojhbdghhmeeaa.Rp
open Go Go.RowKit Go.Proofs.Ytjojhbdghhmeeaa.Ab
theorem cidx {a u:Nat} (N:Nat) (hN:2 ≤ N∧N ≤ 4) (ha:a < N * N) (hu:u < N):IntKind.i64.wrap (IntKind.i64.wrap (IntKind.i64.wrap ((a:Int).tdiv (N:Int)) * (N:Int)) + (u:Int))=((a / N * N + u:Nat):Int)∧IntKind.i64.wrap (IntKind.i64.wrap ((u:Int) * (N:Int)) + (a:Int).tmod (N:Int))=((u * N + a % N:Nat):Int)∧a / N * N + u < N * N∧u * N + a % N < N * N:=by
 have e1:((a:Int)).tdiv (N:Int)=((a / N:Nat):Int):=rfl
 have e2:((a:Int)).tmod (N:Int)=((a % N:Nat):Int):=rfl
 rw [e1,e2]
 have:N=2 ∨ N=3 ∨ N=4:=by omega
 rcases this with rfl | rfl | rfl
 all_goals
  refine ⟨?_,?_,by omega,by omega⟩
  ·rw [wr (n:=((a / _:Nat):Int)) (by omega) (by omega),wr (n:=((a / _:Nat):Int) * _) (by omega) (by omega),wr (by omega) (by omega)]; omega
  ·rw [wr (n:=(u:Int) * _) (by omega) (by omega),wr (by omega) (by omega)]; omega
def candM (N:Nat) (g:List Int) (c:Nat):Nat→Int
 | 0=>topMask N
 | u + 1=>mSub (candM N g c u) (mOr (pw (g.getD (c / N * N + u) 0)) (pw (g.getD (u * N + c % N) 0)))
def candAt (N:Nat) (g:List Int) (c:Nat):Int:=if g.getD c 0 > 0 then pw (g.getD c 0) else candM N g c N
def candV (N:Nat) (g:List Int):List Int:=(List.range g.length).map (candAt N g)
theorem gr' {g:List Int} {n:Int} (hg:gridOk g n=true) (i:Nat):0 ≤ g.getD i 0∧g.getD i 0 ≤ 4:=by
 by_cases hi:i < g.length
 ·obtain ⟨h1,_,h3⟩:=(gridOk_iff g n).1 hg
  have:=h3 _ (mem_getD hi)
  omega
 ·rw [List.getD_eq_getElem?_getD,List.getElem?_eq_none (by omega)]; simp
theorem topM (n:Int):M (topMask n):=by have:=topMask_le n; exact ⟨by omega,by omega⟩
theorem candM_M {N:Nat} {g:List Int} {n:Int} (hg:gridOk g n=true) (c:Nat):∀ u,M (candM N g c u)
 | 0=>topM _
 | u + 1=>by
  have a:=gr' hg (c / N * N + u)
  have b:=gr' hg (u * N + c % N)
  exact (candM_M hg c u).sub ((M.pw a.1 a.2).or (M.pw b.1 b.2))
theorem candM_has {N:Nat} {g:List Int} {n:Int} (hg:gridOk g n=true) (c v:Nat):∀ u,has (candM N g c u) v=true ↔ has (topMask N) v=true∧∀ i,i < u→(v:Int) ≠ g.getD (c / N * N + i) 0∧(v:Int) ≠ g.getD (i * N + c % N) 0
 | 0=>by simp [candM]
 | u + 1=>by
  have a:=gr' hg (c / N * N + u)
  have b:=gr' hg (u * N + c % N)
  rw [candM,has_sub (candM_M hg c u) ((M.pw a.1 a.2).or (M.pw b.1 b.2)),has_or,has_pw a.1,has_pw b.1,Bool.and_eq_true,candM_has hg c v u]
  simp only [Bool.not_eq_true',Bool.or_eq_false_iff,decide_eq_false_iff_not]
  constructor
  ·rintro ⟨⟨h1,h2⟩,h3,h4⟩
   refine ⟨h1,fun i hi=>?_⟩
   by_cases e:i=u
   ·subst e; exact ⟨h3,h4⟩
   ·exact h2 i (by omega)
  ·rintro ⟨h1,h2⟩
   exact ⟨⟨h1,fun i hi=>h2 i (by omega)⟩,(h2 u (by omega)).1,(h2 u (by omega)).2⟩
theorem Cand_l2 (rec:Rec) (k:Nat) (L0:Sl→Int→Sl→Sl→Int→Int→Hp→An) {H:Hp} {xs t x17:Sl} {x18:Int} {g:List Int} {N c:Nat} (hN:2 ≤ N∧N ≤ 4) (hg:gridOk g (N:Int)=true) (hx:Reads .i64 H xs g) (hc:c < g.length) :
  ∀ (j u fuel:Nat),u + j=N→j < fuel→impl_CandidatesOf.l2 rec k L0 fuel xs (N:Int) t (c:Int) (candM N g c u) x17 x18 (c:Int) (N:Int) (u:Int) H=impl_CandidatesOf.j4 rec k L0 xs (N:Int) t (c:Int) (candM N g c N) x17 x18 (c:Int) H:=by
 have hxl:=hx.len
 have hlen:g.length=N * N:=by have:=((gridOk_iff g (N:Int)).1 hg).2.1; exact_mod_cast this
 intro j
 induction j with
 | zero=>
  intro u fuel hu hf
  obtain ⟨fuel,rfl⟩:=Zs fuel (by omega)
  have e:u=N:=by omega
  subst e
  simp (disch:=omega) only [impl_CandidatesOf.l2,df,Zf]
 | succ j ih=>
  intro u fuel hu hf
  obtain ⟨fuel,rfl⟩:=Zs fuel (by omega)
  obtain ⟨i1,i2,i3,i4⟩:=cidx (a:=c) (u:=u) N hN (by omega) (by omega)
  have a:=gr' hg (c / N * N + u)
  have b:=gr' hg (u * N + c % N)
  have ma:=M.pw a.1 a.2
  have mb:=M.pw b.1 b.2
  have hs:=m_sub (candM_M (N:=N) hg c u) (ma.or mb)
  have b1:=ih (u + 1) fuel (by omega) (by omega)
  rw [candM] at b1
  push_cast at b1
  have l1:c / N * N + u < g.length:=by omega
  have l2:u * N + c % N < g.length:=by omega
  generalize hp:c / N * N + u=p at *
  generalize hq:u * N + c % N=q at *
  simp (disch:=omega) only [impl_CandidatesOf.l2,dt,Za,Zt,iN,i1,i2,Zn,Zo,rdn hx,m_shl (v:=g.getD p 0),m_shl (v:=g.getD q 0),m_or ma mb,hs,wr (n:=(u:Int) + 1),b1]
theorem Cand_l0 {k:Nat} (hk:100 ≤ k) {H0:Hp} {xs t:Sl} {g:List Int} {N:Nat} (hN:2 ≤ N∧N ≤ 4) (hg:gridOk g (N:Int)=true) (hx:Reads .i64 H0 xs g) :
  ∀ (j i fuel:Nat) (H:Hp),i + j=g.length→j < fuel→H0 <+: H→Own 1 H0 H t (((List.range i).map (candAt N g) ++ List.replicate j 0).map (.int .i64)) →
   ∃ H',impl_CandidatesOf.l0 (callF PP orc k) k fuel xs (N:Int) t xs (g.length:Int) i H=some (.sl 1 t,H')∧H0 <+: H'∧Own 1 H0 H' t ((candV N g).map (.int .i64)):=by
 have hxl:=hx.len
 have h16:=gridOk_len hg
 have hlen:g.length=N * N:=by have:=((gridOk_iff g (N:Int)).1 hg).2.1; exact_mod_cast this
 intro j
 induction j with
 | zero=>
  intro i fuel H hi hf hp ho
  obtain ⟨fuel,rfl⟩:=Zs fuel (by omega)
  refine ⟨H,?_,hp,?_⟩
  ·simp (disch:=omega) only [impl_CandidatesOf.l0,impl_CandidatesOf.j3,df,Zf]
  ·have:i=g.length:=by omega
   subst this
   simpa [candV] using ho
 | succ j ih=>
  intro i fuel H hi hf hp ho
  obtain ⟨fuel,rfl⟩:=Zs fuel (by omega)
  have htl:t.len=g.length:=by have:=(own_reads ho).len; simp at this; omega
  have a:=gr' hg i
  obtain ⟨H1,a1,a2,a3,a4⟩:=own_set1 ho hp i (by simp) (candAt N g i)
  have e:((List.range i).map (candAt N g) ++ List.replicate (j + 1) 0).set i (candAt N g i)=(List.range (i + 1)).map (candAt N g) ++ List.replicate j 0:=by
   rw [List.set_append_right _ _ (by simp),List.range_succ,List.map_append,List.append_assoc]
   simp [List.replicate_succ]
  rw [e] at a3
  obtain ⟨H',b1,b2,b3⟩:=ih (i + 1) fuel H1 (by omega) (by omega) a2 a3
  push_cast at b1
  refine ⟨H',?_,b2,b3⟩
  by_cases c:g.getD i 0 > 0
  ·have ec:candAt N g i=pw (g.getD i 0):=by unfold candAt; rw [if_pos c]
   rw [ec] at a1
   simp (disch:=omega) only [impl_CandidatesOf.l0,impl_CandidatesOf.j1,dt,Za,Zt,iN,Zn,Zo,rdn (pf_reads hp hx),m_shl (v:=g.getD i 0),a1,wr (n:=(i:Int) + 1),b1]
  ·have ec:candAt N g i=candM N g i N:=by unfold candAt; rw [if_neg c]
   rw [ec] at a1
   have hav:=allValues_ok (show 1 ≤ k by omega) (n:=(N:Int)) (by omega) H
   have d1:=Cand_l2 (callF PP orc k) k (impl_CandidatesOf.l0 (callF PP orc k) k fuel) (t:=t) (x17:=xs) (x18:=(g.length:Int)) hN hg (pf_reads hp hx) (show i < g.length by omega) N 0 k (by omega) (by omega)
   rw [candM] at d1
   simp only [Int.natCast_zero] at d1
   simp (disch:=omega) only [impl_CandidatesOf.l0,impl_CandidatesOf.j1,impl_CandidatesOf.j4,dt,df,Za,Zt,Zf,Zn,Zo,AV.toI,if_true,rdn (pf_reads hp hx),hav,d1,a1,wr (n:=(i:Int) + 1),b1]
theorem implCandidatesOf_ok {k:Nat} (hk:2000010 ≤ k) {H:Hp} {xs:Sl} {g:List Int} {n:Int} (hx:Reads .i64 H xs g) (hg:gridOk g n=true) :
  ∃ t H',callF PP orc k impl_CandidatesOf.id [.sl 1 xs,.int .i64 n] H=some (.sl 1 t,H')∧H <+: H'∧Own 1 H H' t ((candV n.toNat g).map (.int .i64)):=by
 obtain ⟨k,rfl⟩:=Zs k (by omega)
 rw [impl_CandidatesOf.call]
 have hn:=((gridOk_iff g n).1 hg).1
 obtain ⟨N,rfl⟩:=Int.eq_ofNat_of_zero_le (show 0 ≤ n by omega)
 have h16:=gridOk_len hg
 have hxl:=hx.len
 have h1:=implGridValid_ok (show 2000000 ≤ k by omega) hx (by omega) (N:Int)
 rw [hg] at h1
 rw [Int.toNat_natCast]
 have hnew:=own_new 1 H ((List.replicate g.length (0:Int)).map (.int .i64)) g.length (by simp)
 obtain ⟨H',b1,b2,b3⟩:=Cand_l0 (show 100 ≤ k by omega) (by omega) hg hx g.length 0 k (H ++ [some (Blk.mk false ((List.replicate g.length (0:Int)).map (.int .i64)))]) (by omega) (by omega) (List.prefix_append _ _) (by simpa using hnew)
 refine ⟨_,H',?_,b2,b3⟩
 simp only [Int.natCast_zero] at b1
 simp only [impl_CandidatesOf.f,dt,df,bt,bf,nt,nf,Za,Zy,Zx,Zt,Zf,Zn,Zz,Zi,Zo,wr,AV.toB,AV.toI,AV.toS,if_true,h1,hxl,flat0s]
 rw [ip (by omega),b1]
/-! ### The first technique on the first masks -/
theorem tab_sing:∀ n:Nat,n < 5→2 ≤ n→single (topMask n)=false:=by decide +kernel
theorem openOf_len (n:Int) (g:List Int):(openOf n g).length=g.length:=by simp [openOf]
theorem pw_single {n:Int} (hn:2 ≤ n∧n ≤ 4) {v:Int} (h:1 ≤ v∧v ≤ n):single (pw v)=true:=by
 unfold single; rw [(tab_open n hn).1 v h]; rfl
theorem PS_open {N:Nat} {g:List Int} (hN:2 ≤ N∧N ≤ 4) (hg:gridOk g (N:Int)=true) (j v:Nat):PS N (openOf (N:Int) g) j v ↔ ∃ q,q < g.length∧peer N j q∧0 < g.getD q 0∧(v:Int)=g.getD q 0:=by
 obtain ⟨h1,h2,h3⟩:=(gridOk_iff g (N:Int)).1 hg
 unfold PS
 rw [openOf_len]
 constructor
 ·rintro ⟨q,a,b,c,d⟩
  rw [openOf_at a] at c d
  by_cases hq:g.getD q 0 > 0
  ·rw [if_pos hq] at d
   have:=gr' hg q
   rw [has_pw this.1,decide_eq_true_eq] at d
   exact ⟨q,a,b,hq,d⟩
  ·rw [if_neg hq,tab_sing N (by omega) (by omega)] at c; cases c
 ·rintro ⟨q,a,b,c,d⟩
  have hv:=h3 _ (mem_getD a)
  refine ⟨q,a,b,?_,?_⟩
  ·rw [openOf_at a,if_pos c]; exact pw_single (by omega) (by omega)
  ·rw [openOf_at a,if_pos c,has_pw (by omega),decide_eq_true_eq]; exact d
theorem peer_idx {N j q:Nat} (hN:2 ≤ N∧N ≤ 4) (hj:j < N * N) (hq:q < N * N):(j / N=q / N ∨ j % N=q % N) ↔ ∃ i,i < N∧(q=j / N * N + i ∨ q=i * N + j % N):=by
 have h3:N=2 ∨ N=3 ∨ N=4:=by omega
 constructor
 ·rintro (h | h)
  ·refine ⟨q % N,Nat.mod_lt _ (by omega),.inl ?_⟩
   rcases h3 with rfl | rfl | rfl <;> omega
  ·refine ⟨q / N,?_,.inr ?_⟩
   ·rcases h3 with rfl | rfl | rfl <;> omega
   ·rcases h3 with rfl | rfl | rfl <;> omega
 ·rintro ⟨i,hi,h | h⟩
  ·left; rcases h3 with rfl | rfl | rfl <;> omega
  ·right; rcases h3 with rfl | rfl | rfl <;> omega
theorem singles_open {N:Nat} {g:List Int} (hN:2 ≤ N∧N ≤ 4) (hg:gridOk g (N:Int)=true) (hc:clash g (N:Int)=false):singlesV (N:Int) (openOf (N:Int) g)=candV N g:=by
 have hok:=openOf_ok hg
 have hlen:g.length=N * N:=by have:=((gridOk_iff g (N:Int)).1 hg).2.1; exact_mod_cast this
 have hcl:(candV N g).length=g.length:=by simp [candV]
 have sub:=subAll_ok (masks_M hok) (PS N (openOf (N:Int) g))
 unfold singlesV
 rw [if_pos hok,Int.toNat_natCast]
 have hcand:∀ j,j < g.length→(candV N g).getD j 0=candAt N g j:=fun j hj=>by
  unfold candV
  rw [List.getD_eq_getElem?_getD,List.getElem?_map,List.getElem?_range hj]; rfl
 have hmc:∀ j,M (candAt N g j):=fun j=>by
  unfold candAt
  split
  ·have:=gr' hg j; exact M.pw this.1 this.2
  ·exact candM_M hg j N
 refine ext_getD (by rw [sub.len,openOf_len,hcl]) fun j hj=>?_
 rw [sub.len,openOf_len] at hj
 rw [hcand j hj]
 refine m_ext (sub.ms.at j) (hmc j) fun v hv=>?_
 rw [Bool.eq_iff_iff,sub.has j v (by rw [openOf_len]; exact hj),PS_open hN hg,openOf_at hj]
 unfold candAt
 by_cases c:g.getD j 0 > 0
 ·rw [if_pos c,if_pos c]
  have hgj:=gr' hg j
  rw [has_pw hgj.1,decide_eq_true_eq]
  constructor
  ·intro h; exact h.1
  ·intro h
   refine ⟨h,?_⟩
   rintro ⟨q,h1,h2,h3,h4⟩
   have:=(clash_iff (n:=(N:Int)) (by omega) g).2 ⟨j,q,by rw [Int.toNat_natCast]; omega,by rw [Int.toNat_natCast]; omega,h2.1,by rw [Int.toNat_natCast]; exact h2.2,c,by omega⟩
   rw [this] at hc; cases hc
 ·rw [if_neg c,if_neg c,candM_has hg]
  have hgj:=gr' hg j
  refine and_congr_right fun ht=>?_
  have hv1:1 ≤ v:=by
   rcases Nat.eq_zero_or_pos v with e | e
   ·subst e
    exfalso
    have:∀ n:Nat,n < 5→has (topMask n) 0=false:=by decide +kernel
    rw [this N (by omega)] at ht; cases ht
   ·exact e
  constructor
  ·intro h i hi
   have hh:∀ q,q < N * N→(j / N=q / N ∨ j % N=q % N)→(v:Int) ≠ g.getD q 0:=fun q hq hs e=>by
    refine h ⟨q,by omega,⟨fun ejq=>?_,hs⟩,by omega,e⟩
    subst ejq; omega
   obtain ⟨_,_,i3,i4⟩:=cidx (a:=j) (u:=i) N hN (by omega) hi
   exact ⟨hh _ i3 ((peer_idx hN (by omega) i3).2 ⟨i,hi,.inl rfl⟩),hh _ i4 ((peer_idx hN (by omega) i4).2 ⟨i,hi,.inr rfl⟩)⟩
  ·rintro h ⟨q,h1,h2,h3,h4⟩
   obtain ⟨i,hi,e⟩:=(peer_idx hN (show j < N * N by omega) (show q < N * N by omega)).1 h2.2
   rcases e with e | e
   ·exact (h i hi).1 (by rw [← e]; exact h4)
   ·exact (h i hi).2 (by rw [← e]; exact h4)






def seenC (seen:List Int):List AV:=(List.range 5).map fun (v:Nat)=>.bool (seen.contains (v:Int))
theorem seen_set (seen:List Int) (v:Nat) (hv:v < 5):(seenC seen).take v ++ [.bool true] ++ (seenC seen).drop (v + 1)=seenC ((v:Int) :: seen):=by
 apply List.ext_getElem?
 intro i
 have h0:(seenC seen).length=5:=by simp [seenC]
 have e:(seenC seen).take v ++ [.bool true] ++ (seenC seen).drop (v + 1)=(seenC seen).set v (.bool true):=by
  rw [List.set_eq_take_append_cons_drop,if_pos (by omega)]; simp
 rw [e]
 by_cases hi:i=v
 ·subst hi
  rw [List.getElem?_set_self (by omega)]
  simp [seenC,hv]
 ·rw [List.getElem?_set_ne (by omega)]
  by_cases h5:i < 5
  ·simp [seenC,h5,hi]
   intro e'; omega
  ·rw [List.getElem?_eq_none (by omega),List.getElem?_eq_none (by simp [seenC]; omega)]
theorem reads_ne {H:Hp} {s:Sl} {l:List Int} {k:IntKind} {b:Nat} {seen:List Int} (hr:Reads k H s l) (hl:l ≠ []) (hb:H[b]?=some (some ⟨false,seenC seen⟩)):s.blk ≠ b:=by
 intro e
 have h0:0 < l.length:=List.length_pos_iff.2 hl
 have:=hr.cell 0 h0
 unfold Hp.cell at this
 rw [e,hb] at this
 simp only at this
 have hm:=List.mem_of_getElem? this
 unfold seenC at hm
 obtain ⟨v,_,hv⟩:=List.mem_map.1 hm
 cases hv
theorem But.reads' {b:Nat} {H H':Hp} (h:But b H H') {k:IntKind} {s:Sl} {l:List Int} {seen:List Int} (hb:H[b]?=some (some ⟨false,seenC seen⟩)) (hr:Reads k H s l):Reads k H' s l:=by
 by_cases hl:l=[]
 ·subst hl; exact reads_nil hr.len
 ·exact h.reads (reads_ne hr hl hb) hr
theorem implSquareFits_l1 (rec:Rec) (k:Nat) (L0:Sl→Int→Int→Int→Hp→An) {H0:Hp} {s t:Sl} {g cells:List Int} {n top line:Int} {b:Nat} (hs:Reads .i64 H0 s g)
  (hc:∀ c ∈ cells,0 ≤ c∧c < (g.length:Int)) (hg:∀ v ∈ g,0 ≤ v∧v ≤ 4) (hl:cells.length ≤ 1000) (hline:IntKind.i64.wrap (line + 1)=line + 1) :
  ∀ (j i fuel:Nat) (H:Hp) (seen:List Int),i + j=cells.length→j < fuel→H0 <+: H→Own 1 H0 H (Sl.mk false b 0 5) (seenC seen)→Reads .i64 H t cells →
   ∃ H',H0 <+: H'∧impl_SquareFits.l1 rec k L0 fuel s n b 0 top line t cells.length i H=bif clashL g (cells.drop i) seen then some (.bool false,H') else L0 s n top (line + 1) H':=by
 intro j
 induction j with
 | zero=>
  intro i fuel H seen hi hf hp ho ht
  obtain ⟨fuel,rfl⟩:=Zs fuel (by omega)
  refine ⟨H,hp,?_⟩
  simp [impl_SquareFits.l1,impl_SquareFits.j3,show ¬ i < cells.length by omega,List.drop_eq_nil_of_le (show cells.length ≤ i by omega),clashL,hline]
 | succ j ih=>
  intro i fuel H seen hi hf hp ho ht
  obtain ⟨fuel,rfl⟩:=Zs fuel (by omega)
  have h1:=ht.len
  have h2:i < cells.length:=by omega
  have h3:=reads_at ht i h2
  have h4:=wrs (i:=i) (by omega)
  obtain ⟨c0,c1⟩:=hc _ (List.getElem_mem h2)
  have h5:=gv_at (pf_reads hp hs) c0 c1
  obtain ⟨v0,v1⟩:=hg _ (gv_mem c0 c1)
  rw [List.drop_eq_getElem_cons h2]
  simp only [clashL]
  obtain ⟨v,hv⟩:=Int.eq_ofNat_of_zero_le v0
  rw [hv] at h5 ⊢
  have hv5:v < 5:=by omega
  have hsl:=hs.len
  obtain ⟨H1,a1,a2,a3,a4,a5⟩:=own_sto ho hp v [.bool true] (by simp [seenC]; omega)
  rw [show v + [AV.bool true].length=v + 1 from rfl,seen_set seen v hv5] at a3
  simp only [Nat.zero_add] at a1
  obtain ⟨H',b1,b2⟩:=ih (i + 1) fuel H1 ((v:Int) :: seen) (by omega) (by omega) a2 a3 (a4.reads' ho.get ht)
  rw [show ((i + 1:Nat):Int)=(i:Int) + 1 by omega] at b2
  have q1:((i:Int) < (t.len:Int)):=by omega
  have q2:((i:Int) < (cells.length:Int)):=by omega
  have q0:(0:Int) ≤ (i:Int):=by omega
  have z0:(0:Int) ≤ (v:Int):=by omega
  have z3:(v:Int) < ((5:Nat):Int):=by omega
  have c1':cells[i] < (s.len:Int):=by omega
  have hld:ldB H b v=some (seen.contains (v:Int)):=by
   have:=own_cell ho v
   simp only [Nat.zero_add] at this
   unfold ldB
   rw [this]
   simp [seenC,hv5,AV.toB]
  by_cases hp':0 < v
  ·have z1:((v:Int) > 0):=by omega
   have z2:(0:Int) < (v:Int):=z1
   cases hse':seen.contains (v:Int) with
   | true=>
    rw [hse'] at hld
    refine ⟨H,hp,?_⟩
    simp only [impl_SquareFits.l1,impl_SquareFits.j2,impl_SquareFits.j4,impl_SquareFits.j5,q0,q1,q2,c0,c1',z0,z1,z2,z3,decide_true,Za,Zt,Zf,Zn,Nat.mul_one,Nat.zero_add,h3,h5,Zo,hld,Bool.true_or]
   | false=>
    rw [hse'] at hld
    refine ⟨H',b1,?_⟩
    simp only [impl_SquareFits.l1,impl_SquareFits.j2,impl_SquareFits.j4,impl_SquareFits.j5,q0,q1,q2,c0,c1',z0,z1,z2,z3,decide_true,Za,Bool.and_false,Zt,Zf,Zn,Nat.mul_one,Nat.zero_add,h3,h5,Zo,hld,Bool.false_or,a1,h4,b2]
  ·have z1:¬ ((v:Int) > 0):=by omega
   have z2:¬ (0:Int) < (v:Int):=z1
   refine ⟨H',b1,?_⟩
   simp only [impl_SquareFits.l1,impl_SquareFits.j2,impl_SquareFits.j4,impl_SquareFits.j5,q0,q1,q2,c0,c1',z0,z1,z2,z3,decide_true,decide_false,Za,Bool.false_and,Zt,Zf,Zn,Nat.mul_one,Nat.zero_add,h3,h5,Zo,Bool.false_or,a1,h4,b2]
theorem implSquareFits_l0 {k:Nat} (hk:2000000 ≤ k) {H0:Hp} {s:Sl} {g:List Int} {n:Int} (hs:Reads .i64 H0 s g) (hg:gridOk g n=true) :
  ∀ (j fuel line:Nat) (H:Hp),(line:Int) + j=2 * n→j < fuel→H0 <+: H →
   ∃ H',impl_SquareFits.l0 (callF PP orc k) k fuel s n (2 * n) line H=some (.bool (!clashFrom g n line j),H')∧H0 <+: H':=by
 obtain ⟨⟨n1,n2⟩,n3,n4⟩:=(gridOk_iff g n).1 hg
 intro j
 induction j with
 | zero=>
  intro fuel line H hl hf hp
  obtain ⟨fuel,rfl⟩:=Zs fuel (by omega)
  refine ⟨H,?_,hp⟩
  have:¬ ((line:Int) < 2 * n):=by omega
  simp only [impl_SquareFits.l0,this,decide_false,Zf,clashFrom,Zx]
 | succ j ih=>
  intro fuel line H hl hf hp
  obtain ⟨fuel,rfl⟩:=Zs fuel (by omega)
  have q1:((line:Int) < 2 * n):=by omega
  have hnew:=own_base (own_new 1 H [.bool false,.bool false,.bool false,.bool false,.bool false] 5 rfl) hp
  obtain ⟨H1,a1,a2,a3,a4,a5⟩:=own_sto hnew (hp.trans (List.prefix_append _ _)) 0 [.bool false,.bool false,.bool false,.bool false,.bool false] (by simp)
  obtain ⟨t,H2,e1,e2,e3⟩:=implLineCells_ok hk n line H1
  have hseen:Own 1 H0 H1 (Sl.mk false H.length 0 5) (seenC []):=a3
  obtain ⟨H3,b1,b2⟩:=implSquareFits_l1 (callF PP orc k) k (impl_SquareFits.l0 (callF PP orc k) k fuel) (line:=line) (n:=n) (top:=2 * n) hs (fun c hc=>by rw [n3]; exact lineCells_mem hc) (fun v hv=>⟨(n4 v hv).1,by have:=(n4 v hv).2; omega⟩)
   (by have:=lineCells_len n line; omega) (wr (by omega) (by omega)) (lineCells n line).length 0 k H2 [] (by omega) (by have:=lineCells_len n line; omega) (a2.trans e2) (own_pf hseen e2) e3
  simp only [List.drop_zero,Int.natCast_zero] at b2
  simp only [Nat.zero_add] at a1
  have hlen:=e3.len
  have a1':(H ++ [some (Blk.mk false [.bool false,.bool false,.bool false,.bool false,.bool false])]).sto H.length 0 [.bool false,.bool false,.bool false,.bool false,.bool false]=some H1:=a1
  cases hc:clashL g (lineCells n line) [] with
  | true=>
   refine ⟨H3,?_,b1⟩
   simp only [hc,Zt] at b2
   simp only [impl_SquareFits.l0,q1,decide_true,Zt,a1',e1,Zo,AV.toS,if_true,clashFrom,hc,Bool.true_or,Zy,hlen]
   exact b2
  | false=>
   obtain ⟨H',c1,c2⟩:=ih fuel (line + 1) H3 (by omega) (by omega) b1
   push_cast at c1
   refine ⟨H',?_,c2⟩
   simp only [hc,Zf] at b2
   simp only [impl_SquareFits.l0,q1,decide_true,Zt,a1',e1,Zo,AV.toS,if_true,clashFrom,hc,Bool.false_or,hlen]
   exact b2.trans c1
theorem implSquareFits_ok {k:Nat} (hk:2000001 ≤ k) {H:Hp} {s:Sl} {g:List Int} (n:Int) (hs:Reads .i64 H s g) (hl:g.length ≤ 1048576) :
  ∃ H',callF PP orc k impl_SquareFits.id [.sl 1 s,.int .i64 n] H=some (.bool (squareFits g n),H')∧H <+: H':=by
 obtain ⟨k,rfl⟩:=Zs k (by omega)
 rw [impl_SquareFits.call]
 have h1:=implGridValid_ok (show 2000000 ≤ k by omega) hs hl n
 cases hg:gridOk g n with
 | true=>
  obtain ⟨⟨n1,n2⟩,n3,n4⟩:=(gridOk_iff g n).1 hg
  have hw:IntKind.i64.wrap (2 * n)=2 * n:=wr (by omega) (by omega)
  obtain ⟨H',a1,a2⟩:=implSquareFits_l0 (show 2000000 ≤ k by omega) hs hg (2 * n).toNat k 0 H (by omega) (by omega) (List.prefix_refl _)
  refine ⟨H',?_,a2⟩
  simp only [impl_SquareFits.f,h1,hg,Zo,AV.toB,Zy,Zf,hw,squareFits,Bool.true_and]
  exact a1
 | false=>exact ⟨H,by simp only [impl_SquareFits.f,h1,hg,Zo,AV.toB,Zx,Zt,squareFits,Bool.false_and],List.prefix_refl _⟩

theorem dm_of {n:Int} {l:List Int} (h:masksOk n l=true):l.length ≤ 16∧0 < l.length∧∀ m ∈ l,-2 ≤ m∧m ≤ 63:=by
 obtain ⟨h1,h2,h3⟩:=masksOk_iff.1 h
 have:=masks_len h
 refine ⟨by omega,by omega,fun m hm=>?_⟩
 have:=(maskOk_iff.1 (h2 m hm)).1
 have:=topMask_le n
 omega

theorem iStart_l0 {k:Nat} (hk:2000003 ≤ k) {H0:Hp} {n:Int} {gs s t:Sl} {given:List Int} (hg0:Reads .i64 H0 gs given) (hg:gridOk given n=true) :
  ∀ (j i fuel:Nat) (H:Hp),i + j=given.length→j < fuel→H0 <+: H→Own 1 H0 H t ((openOf n (given.take i) ++ List.replicate j 0).map (.int .i64)) →
   ∃ H',impl_StartMasks.l0 (callF PP orc k) k fuel t gs (given.length:Int) i n gs s H=some (.sl 1 t,H')∧H0 <+: H'∧Own 1 H0 H' t ((openOf n given).map (.int .i64)):=by
 obtain ⟨hn,g2,g3⟩:=(gridOk_iff given n).1 hg
 have h16:=gridOk_len hg
 have hgl:=hg0.len
 have hol:∀ l:List Int,(openOf n l).length=l.length:=fun l=>by simp [openOf]
 intro j
 induction j with
 | zero=>
  intro i fuel H hi hf hp ho
  obtain ⟨fuel,rfl⟩:=Zs fuel (by omega)
  refine ⟨H,?_,hp,?_⟩
  ·simp (disch:=omega) only [impl_StartMasks.l0,impl_StartMasks.j2,df,Zf]
  ·rw [List.take_of_length_le (by omega)] at ho
   simpa using ho
 | succ j ih=>
  intro i fuel H hi hf hp ho
  obtain ⟨fuel,rfl⟩:=Zs fuel (by omega)
  have hi2:i < given.length:=by omega
  obtain ⟨v0,v1⟩:=g3 _ (mem_getD hi2)
  have htl:t.len=given.length:=by have:=(own_reads ho).len; simp [hol] at this; omega
  have hse:∀ v:Int,v=(if given.getD i 0 > 0 then pw (given.getD i 0) else topMask n)→(openOf n (given.take i) ++ List.replicate (j + 1) 0).set i v=openOf n (given.take (i + 1)) ++ List.replicate j 0:=fun v hv=>by
   rw [List.set_append_right _ _ (by rw [hol]; simp; omega),List.take_succ_eq_append_getElem hi2]
   unfold openOf
   rw [List.map_append,List.append_assoc,hv,List.getD_eq_getElem?_getD,List.getElem?_eq_getElem hi2]
   simp [show min i given.length=i by omega,List.replicate_succ]
  have hav:=allValues_ok (show 1 ≤ k by omega) hn H
  obtain ⟨H1,a1,a2,a3,a4⟩:=own_set1 ho hp i (by simp [hol]; omega) (topMask n)
  by_cases c:given.getD i 0 > 0
  ·obtain ⟨H2,b1,b2,b3,b4⟩:=own_set1 a3 a2 i (by simp [hol]; omega) (pw (given.getD i 0))
   have e2:((openOf n (given.take i) ++ List.replicate (j + 1) 0).set i (topMask n)).set i (pw (given.getD i 0))=openOf n (given.take (i + 1)) ++ List.replicate j 0:=by
    rw [List.set_set]; exact hse _ (by rw [if_pos c])
   rw [e2] at b3
   obtain ⟨H',d1,d2,d3⟩:=ih (i + 1) fuel H2 (by omega) (by omega) b2 b3
   push_cast at d1
   refine ⟨H',?_,d2,d3⟩
   simp (disch:=omega) only [impl_StartMasks.l0,impl_StartMasks.j1,dt,Za,Zt,Zn,Zo,AV.toI,if_true,rdn (pf_reads hp hg0),hav,a1,iN,m_shl v0,b1,wr (n:=(i:Int) + 1),d1]
  ·rw [hse _ (by rw [if_neg c])] at a3
   obtain ⟨H',d1,d2,d3⟩:=ih (i + 1) fuel H1 (by omega) (by omega) a2 a3
   push_cast at d1
   refine ⟨H',?_,d2,d3⟩
   simp (disch:=omega) only [impl_StartMasks.l0,impl_StartMasks.j1,dt,df,Za,Zt,Zf,Zn,Zo,AV.toI,if_true,rdn (pf_reads hp hg0),hav,a1,wr (n:=(i:Int) + 1),d1]
theorem implStartMasks_ok {k:Nat} (hk:2000010 ≤ k) {H:Hp} {n:Int} {gs s:Sl} {given:List Int} {rs:List R} (hz:PuzAt H n gs s given rs) :
  ∃ t H',callF PP orc k impl_StartMasks.id [.agg [.int .i64 n,.sl 1 gs,.sl 3 s]] H=some (.sl 1 t,H')∧H <+: H'∧NilOr H H' t (startV n given (rs.map R.val)):=by
 obtain ⟨k,rfl⟩:=Zs k (by omega)
 rw [impl_StartMasks.call]
 have h1:=implPuzzleValid_ok (show 2000003 ≤ k by omega) hz.n4 hz.rg hz.gl hz.rr hz.rl hz.rc
 rw [puzzle_map] at h1
 have hgl:=hz.rg.len
 unfold startV
 cases e1:puzzleV n given (rs.map R.val) with
 | false=>
  rw [e1] at h1
  rw [iN (by simp)]
  exact ⟨Sl.none,H,by simp only [impl_StartMasks.f,dt,df,bt,bf,nt,nf,Za,Zy,Zx,Zt,Zf,Zn,Zz,Zi,Zo,wr,AV.toB,AV.toI,AV.toS,if_true,h1],(List.prefix_refl _),.inl ⟨rfl,rfl⟩⟩
 | true=>
  rw [e1] at h1
  rw [ip rfl]
  have hg:=(puzzleV_grid e1).1
  have h16:=gridOk_len hg
  have hnew:=own_new 1 H ((List.replicate given.length (0:Int)).map (.int .i64)) given.length (by simp)
  obtain ⟨H',b1,b2,b3⟩:=iStart_l0 (show 2000003 ≤ k by omega) (s:=s) hz.rg hg given.length 0 k (H ++ [some (Blk.mk false ((List.replicate given.length (0:Int)).map (.int .i64)))]) (by omega) (by omega) (List.prefix_append _ _) (by
   have e:openOf n (given.take 0)=[]:=rfl
   rw [e,List.nil_append]; exact hnew)
  refine ⟨_,H',?_,b2,.inr b3⟩
  simp only [Int.natCast_zero] at b1
  simp only [impl_StartMasks.f,dt,df,bt,bf,nt,nf,Za,Zy,Zx,Zt,Zf,Zn,Zz,Zi,Zo,wr,AV.toB,AV.toI,AV.toS,if_true,h1,hgl,flat0s]
  rw [ip (by omega),b1]
theorem sameInts_l0 (rec:Rec) (k:Nat) {H:Hp} {s t:Sl} {x y:List Int} (hs:Reads .i64 H s x) (ht:Reads .i64 H t y) (hl:x.length=y.length) (h1:x.length ≤ 1000) :
  ∀ (j i fuel:Nat),i + j=x.length→j < fuel→laws_sameInts.l0 rec k fuel s t i H=some (.bool (decide (x.drop i=y.drop i)),H):=by
 have hsl:=hs.len
 have htl:=ht.len
 intro j
 induction j with
 | zero=>
  intro i fuel hi hf
  obtain ⟨fuel,rfl⟩:=Zs fuel (by omega)
  rw [List.drop_eq_nil_of_le (show x.length ≤ i by omega),List.drop_eq_nil_of_le (show y.length ≤ i by omega)]
  simp (disch:=omega) only [laws_sameInts.l0,dt,df,bt,bf,nt,nf,Za,Zy,Zx,Zt,Zf,Zn,Zz,Zi,Zo,wr,AV.toB,AV.toI,AV.toS,if_true]
  rfl
 | succ j ih=>
  intro i fuel hi hf
  obtain ⟨fuel,rfl⟩:=Zs fuel (by omega)
  have hx:i < x.length:=by omega
  have hy:i < y.length:=by omega
  have ex:x.drop i=x.getD i 0 :: x.drop (i + 1):=by
   rw [List.drop_eq_getElem_cons hx,List.getD_eq_getElem?_getD,List.getElem?_eq_getElem hx]; rfl
  have ey:y.drop i=y.getD i 0 :: y.drop (i + 1):=by
   rw [List.drop_eq_getElem_cons hy,List.getD_eq_getElem?_getD,List.getElem?_eq_getElem hy]; rfl
  rw [ex,ey]
  by_cases c:x.getD i 0=y.getD i 0
  ·have d1:=ih (i + 1) fuel (by omega) (by omega)
   push_cast at d1
   rw [show decide (x.getD i 0 :: x.drop (i + 1)=y.getD i 0 :: y.drop (i + 1))=decide (x.drop (i + 1)=y.drop (i + 1)) by rw [c]; simp,← d1]
   simp (disch:=omega) only [laws_sameInts.l0,dt,df,bt,bf,nt,nf,Za,Zy,Zx,Zt,Zf,Zn,Zz,Zi,Zo,wr,AV.toB,AV.toI,AV.toS,if_true,rdn hs,rdn ht,nf]
  ·rw [show decide (x.getD i 0 :: x.drop (i + 1)=y.getD i 0 :: y.drop (i + 1))=false from decide_eq_false fun h=>c (List.cons.inj h).1]
   simp (disch:=omega) only [laws_sameInts.l0,dt,df,bt,bf,nt,nf,Za,Zy,Zx,Zt,Zf,Zn,Zz,Zi,Zo,wr,AV.toB,AV.toI,AV.toS,if_true,rdn hs,rdn ht,nt]
theorem sameInts_ok {k:Nat} (hk:2000000 ≤ k) {H:Hp} {s t:Sl} {x y:List Int} (hs:Reads .i64 H s x) (ht:Reads .i64 H t y) (h1:x.length ≤ 1000) (h2:y.length ≤ 1000) :
  callF PP orc k laws_sameInts.id [.sl 1 s,.sl 1 t] H=some (.bool (decide (x=y)),H):=by
 obtain ⟨k,rfl⟩:=Zs k (by omega)
 rw [laws_sameInts.call]
 have hsl:=hs.len
 have htl:=ht.len
 by_cases c:x.length=y.length
 ·have d1:=sameInts_l0 (callF PP orc k) k hs ht c h1 x.length 0 k (by omega) (by omega)
  simp only [Int.natCast_zero,List.drop_zero] at d1
  rw [← d1]
  simp (disch:=omega) only [laws_sameInts.f,dt,df,bt,bf,nt,nf,Za,Zy,Zx,Zt,Zf,Zn,Zz,Zi,Zo,wr,AV.toB,AV.toI,AV.toS,if_true]
 ·rw [decide_eq_false (fun h=>c (congrArg List.length h))]
  simp (disch:=omega) only [laws_sameInts.f,dt,df,bt,bf,nt,nf,Za,Zy,Zx,Zt,Zf,Zn,Zz,Zi,Zo,wr,AV.toB,AV.toI,AV.toS,if_true]
theorem same_ok {k:Nat} (hk:2000000 ≤ k) {H:Hp} {s t:Sl} {x:List Int} (hs:Reads .i64 H s x) (ht:Reads .i64 H t x) (h1:x.length ≤ 1000) :
  callF PP orc k laws_sameInts.id [.sl 1 s,.sl 1 t] H=some (.bool true,H):=by
 rw [sameInts_ok hk hs ht h1 h1,decide_eq_true rfl]
theorem NarrowCandidates_law {k:Nat} (hk:2000800 ≤ k) {H:Hp} {s:Sl} {l:List Int} (hs:Reads .u8 H s l) (hb:∀ x ∈ l,0 ≤ x∧x ≤ 255) :
  ∃ H',callF PP orc k laws_FnNarrowCandidates.id [.sl 1 s] H=some (.bool true,H'):=by
 obtain ⟨k,rfl⟩:=Zs k (by omega)
 rw [laws_FnNarrowCandidates.call]
 by_cases hbig:(s.len:Int) > 1048576
 ·exact ⟨H,by simp only [laws_FnNarrowCandidates.f,dt hbig,Zt]⟩
 ·obtain ⟨n,gs,ss,given,rs,H1,a1,a2,a3⟩:=DrawStartMasks_ok (show 2000501 ≤ k by omega) hs hb
  have hz:=a3.at'
  have hn:=hz.n4
  obtain ⟨x,H2,b1,b2,b3⟩:=implStartMasks_ok (show 2000010 ≤ k by omega) hz
  obtain ⟨y,H3,c1,c2,c3⟩:=specStartMasks_ok (show 2000010 ≤ k by omega) (hz.pf b2)
  have hx3:=pf_reads c2 b3.reads
  have hl16:(startV n given (rs.map R.val)).length ≤ 1000:=by
   unfold startV
   split
   ·have:=a3.g16; rw [openOf_len]; omega
   ·simp
  have sm:=same_ok (show 2000000 ≤ k by omega) hx3 (own_reads c3) hl16
  have hz3:=hz.pf (b2.trans c2)
  have hxl:=hx3.len
  unfold laws_FnNarrowCandidates.f
  rw [df hbig,cond_false,a1,Option.bind_some]
  simp only [AV.isTup,AV.nth,AV.isAgg,AV.cel,AV.toI,AV.toS,AV.toB,Zl,Zm,Zc,Zd,if_true,decide_true,beq_self_eq_true,Zt,Zf,Zy,Zx,Zo]
  rw [b1,Option.bind_some]
  simp only [AV.isTup,AV.nth,AV.isAgg,AV.cel,AV.toI,AV.toS,AV.toB,Zl,Zm,Zc,Zd,if_true,decide_true,beq_self_eq_true,Zt,Zf,Zy,Zx,Zo]
  rw [c1,Option.bind_some]
  simp only [AV.isTup,AV.nth,AV.isAgg,AV.cel,AV.toI,AV.toS,AV.toB,Zl,Zm,Zc,Zd,if_true,decide_true,beq_self_eq_true,Zt,Zf,Zy,Zx,Zo]
  rw [sm,Option.bind_some]
  simp only [AV.isTup,AV.nth,AV.isAgg,AV.cel,AV.toI,AV.toS,AV.toB,Zl,Zm,Zc,Zd,if_true,decide_true,beq_self_eq_true,Zt,Zf,Zy,Zx,Zo]
  by_cases hp:puzzleV n given (rs.map R.val)=true
  ·have e:startV n given (rs.map R.val)=openOf n given:=by unfold startV; rw [if_pos hp]
   have hg:=(puzzleV_grid hp).1
   have hok:=openOf_ok hg
   have hne:=(masks_len hok).1
   rw [e] at hxl b3 hx3
   obtain ⟨H4,d1,d2⟩:=implSquareFits_ok (show 2000001 ≤ k by omega) n hz3.rg (by have:=a3.g16; omega)
   rw [bf (show (x.len:Int) ≠ 0 by omega),cond_false,d1,Option.bind_some]
   cases c:squareFits given n with
   | false=>
    obtain ⟨H5,f1,f2⟩:=alive_ok (show 2000002 ≤ k by omega) H4
    refine ⟨H5,?_⟩
    simp only [AV.isTup,AV.nth,AV.isAgg,AV.cel,AV.toI,AV.toS,AV.toB,Zl,Zm,Zc,Zd,if_true,decide_true,beq_self_eq_true,Zt,Zf,Zy,Zx,Zo]
    unfold laws_FnNarrowCandidates.j0
    rw [cond_true,f1,Option.bind_some]
    simp only [AV.isTup,AV.nth,AV.isAgg,AV.cel,AV.toI,AV.toS,AV.toB,Zl,Zm,Zc,Zd,if_true,decide_true,beq_self_eq_true,Zt,Zf,Zy,Zx,Zo]
   | true=>
    have hcl:clash given n=false:=by
     unfold squareFits at c
     rw [Bool.and_eq_true,Bool.not_eq_true'] at c
     exact c.2
    have ho:Own 1 H1 H2 x ((openOf n given).map (.int .i64)):=by
     rcases b3 with ⟨_,h⟩ | h
     ·rw [h] at hne; simp at hne
     ·exact h
    obtain ⟨q1,q2,q3⟩:=dm_of hok
    obtain ⟨u,H5,f1,f2,f3⟩:=implNarrowSingles_ok (show 2000010 ≤ k by omega) (n:=n) (by omega) (pf_reads d2 hx3) ho.nn (by omega) q3
    obtain ⟨w,H6,g1,g2,g3⟩:=implCandidatesOf_ok (show 2000010 ≤ k by omega) (hz3.pf (d2.trans f2)).rg hg
    have es:singlesV n (openOf n given)=candV n.toNat given:=by
     have:=singles_open (N:=n.toNat) (g:=given) (by omega) (by rw [show ((n.toNat:Nat):Int)=n by omega]; exact hg) (by rw [show ((n.toNat:Nat):Int)=n by omega]; exact hcl)
     rw [show ((n.toNat:Nat):Int)=n by omega] at this; exact this
    rw [es] at f3
    have sm2:=same_ok (show 2000000 ≤ k by omega) (pf_reads g2 f3.reads) (own_reads g3) (by have:=a3.g16; simp [candV]; omega)
    refine ⟨H6,?_⟩
    simp only [AV.isTup,AV.nth,AV.isAgg,AV.cel,AV.toI,AV.toS,AV.toB,Zl,Zm,Zc,Zd,if_true,decide_true,beq_self_eq_true,Zt,Zf,Zy,Zx,Zo]
    unfold laws_FnNarrowCandidates.j0
    rw [cond_false]
    unfold laws_FnNarrowCandidates.j1
    rw [f1,Option.bind_some]
    simp only [AV.isTup,AV.nth,AV.isAgg,AV.cel,AV.toI,AV.toS,AV.toB,Zl,Zm,Zc,Zd,if_true,decide_true,beq_self_eq_true,Zt,Zf,Zy,Zx,Zo]
    rw [g1,Option.bind_some]
    simp only [AV.isTup,AV.nth,AV.isAgg,AV.cel,AV.toI,AV.toS,AV.toB,Zl,Zm,Zc,Zd,if_true,decide_true,beq_self_eq_true,Zt,Zf,Zy,Zx,Zo]
    rw [sm2,Option.bind_some]
    simp only [AV.isTup,AV.nth,AV.isAgg,AV.cel,AV.toI,AV.toS,AV.toB,Zl,Zm,Zc,Zd,if_true,decide_true,beq_self_eq_true,Zt,Zf,Zy,Zx,Zo]
  ·have e:startV n given (rs.map R.val)=[]:=by unfold startV; rw [if_neg hp]
   rw [e] at hxl
   obtain ⟨H5,f1,f2⟩:=alive_ok (show 2000002 ≤ k by omega) H3
   refine ⟨H5,?_⟩
   rw [bt (show (x.len:Int)=0 by rw [hxl]; rfl),cond_true]
   unfold laws_FnNarrowCandidates.j0
   rw [cond_true,f1,Option.bind_some]
   simp only [AV.isTup,AV.nth,AV.isAgg,AV.cel,AV.toI,AV.toS,AV.toB,Zl,Zm,Zc,Zd,if_true,decide_true,beq_self_eq_true,Zt,Zf,Zy,Zx,Zo]
end Go.Proofs.Ytjojhbdghhmeeaa.Rp
