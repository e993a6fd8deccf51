/- Texts for the row of the law FnStartMasks, part 13: the plain machine, the program's functions on it, what they come to. No conditions. -/
import Derived.Test.YtjikkamhljbipaaBuFnStartMasks12
import Derived.Test.YtjikkamhljbipaaBuFnStartMasks10
import Derived.Test.YtjikkamhljbipaaBuFnStartMasks8
import Derived.Test.YtjikkamhljbipaaBuFnStartMasks11
set_option linter.unusedVariables false
set_option linter.unusedSimpArgs false
namespace Go.Proofs.Ytjikkamhljbipaa.Rp
open Go Go.RowKit Go.Proofs.Ytjikkamhljbipaa.Ab
theorem implSolveFirst_ok {k:Nat} (hk:2000510 ≤ k) {H:Hp} {n:Int} {gs s:Sl} {given:List Int} {rs:List R} (hz:PuzAt H n gs s given rs) (hnil:gs.nil=false) :
  ∃ t H',H <+: H'∧((firstV n given (rs.map R.val)=none∧callF PP orc k impl_SolveFirst.id [.agg [.int .i64 n,.sl 1 gs,.sl 3 s]] H=some (.tup [.sl 1 t,.bool false],H')∧Reads .i64 H' t []) ∨
   (∃ x,firstV n given (rs.map R.val)=some x∧callF PP orc k impl_SolveFirst.id [.agg [.int .i64 n,.sl 1 gs,.sl 3 s]] H=some (.tup [.sl 1 t,.bool true],H')∧Reads .i64 H' t x)):=by
 obtain ⟨k,rfl⟩:=Zs k (by omega)
 rw [impl_SolveFirst.call]
 have h1:=implPuzzleValid_ok (show 2000003 ≤ k by omega) hz.n4 hz.rg hz.gl hz.rr hz.rl hz.rc
 rw [puzzle_map] at h1
 cases c1:puzzleV n given (rs.map R.val) with
 | false=>
  rw [c1] at h1
  have e:firstV n given (rs.map R.val)=none:=by
   unfold firstV allSols puzzleFitsV; rw [c1]; rfl
  exact ⟨Sl.none,H,(List.prefix_refl _),.inl ⟨e,by simp only [impl_SolveFirst.f,dt,df,bt,bf,nt,nf,Za,Zy,Zx,Zt,Zf,Zn,Zz,Zi,Zo,wr,AV.toB,AV.toI,AV.toS,if_true,h1],reads_nil rfl⟩⟩
 | true=>
  rw [c1] at h1
  obtain ⟨t,H1,a1,a2,a3⟩:=firstSolutions_ok (show 2000500 ≤ k by omega) hz hnil (most:=1) (by omega) (by omega)
  have a1':callF PP orc k impl_firstSolutions.id [.agg [.int .i64 n,.sl 1 gs,.sl 3 s],.sl 1 gs,.int .i64 1] H=some (.sl 1 t,H1):=a1
  have hl:=a3.len
  unfold firstV
  generalize allSols n given (rs.map R.val)=L at *
  cases L with
  | nil=>
   simp at hl
   refine ⟨Sl.none,H1,a2,.inl ⟨rfl,?_,reads_nil rfl⟩⟩
   simp (disch:=omega) only [impl_SolveFirst.f,dt,df,bt,bf,nt,nf,Za,Zy,Zx,Zt,Zf,Zn,Zz,Zi,Zo,wr,AV.toB,AV.toI,AV.toS,if_true,h1,a1']
  | cons x L=>
   simp at hl
   obtain ⟨u,b1,b2⟩:=readsL0 a3 (by simp)
   refine ⟨u,H1,a2,.inr ⟨x,rfl,?_,own_reads b2⟩⟩
   simp (disch:=omega) only [impl_SolveFirst.f,dt,df,bt,bf,nt,nf,Za,Zy,Zx,Zt,Zf,Zn,Zz,Zi,Zo,wr,AV.toB,AV.toI,AV.toS,if_true,h1,a1',b1]
structure WN (H0 H:Hp) (s:Sl) (qs:List R):Prop where
 sh:(qs=[]∧s=Sl.none) ∨ Own 3 H0 H s (qs.flatMap R.av)
 rd:∀ q ∈ qs,Reads .i64 H q.sl q.cells
 cb:∀ q ∈ qs,q.cells ≠ []→H0.length ≤ q.sl.blk∧q.sl.blk < H.length∧q.sl.blk ≠ s.blk
 cn:∀ q ∈ qs,q.sl.nil=false ∨ q.cells=[]
theorem reads_or {H H':Hp} {s:Sl} {l:List Int} {b:Nat} (h:Reads .i64 H s l) (g:But b H H') (hb:l ≠ []→s.blk ≠ b):Reads .i64 H' s l:=by
 cases l with
 | nil=>exact reads_nil h.len
 | cons x l=>exact g.reads (hb (by simp)) h
theorem WN.pf {H0 H H':Hp} {s:Sl} {qs:List R} (h:WN H0 H s qs) (g:H <+: H'):WN H0 H' s qs:=
 ⟨h.sh.imp id fun ho=>own_pf ho g,fun q hq=>pf_reads g (h.rd q hq),fun q hq hc=>by
  obtain ⟨a,b,c⟩:=h.cb q hq hc
  exact ⟨a,Nat.lt_of_lt_of_le b g.length_le,c⟩,h.cn⟩
theorem WN.reads {H0 H:Hp} {s:Sl} {qs:List R} (h:WN H0 H s qs):ReadsR H s qs:=by
 rcases h.sh with ⟨e1,e2⟩ | ho
 ·subst e1 e2
  exact ⟨rfl,fun i hi=>absurd hi (Nat.not_lt_zero _),fun i hi=>absurd hi (Nat.not_lt_zero _),fun i hi=>absurd hi (Nat.not_lt_zero _),fun i hi=>absurd hi (Nat.not_lt_zero _)⟩
 ·exact own_readsR ho fun i hi=>h.rd _ (List.getElem_mem hi)
theorem WN.wr {H0 H H':Hp} {s:Sl} {qs:List R} {b:Nat} (h:WN H0 H s qs) (g:But b H H') (hl:H'.length=H.length) (hb:b < H0.length):WN H0 H' s qs:=
 ⟨h.sh.imp id fun ho=>g.own (by have:=ho.blk; omega) ho,fun q hq=>reads_or (h.rd q hq) g fun hc=>by have:=(h.cb q hq hc).1; omega,fun q hq hc=>by
  obtain ⟨a,b,c⟩:=h.cb q hq hc
  exact ⟨a,by omega,c⟩,h.cn⟩
def clear (cs:List Int) (g:List Int):List Int:=cs.foldl (fun g c=>g.set c.toNat 0) g
theorem tab_topvals:∀ n:Nat,n < 5→2 ≤ n→((maskVals (topMask n)).length:Int)=(n:Int):=by decide +kernel
theorem first_memS {n:Int} {given:List Int} {vs:List V} {x:List Int} (h:firstV n given vs=some x):x ∈ allSols n given vs:=List.mem_of_mem_head? h
theorem Start_j2 {k:Nat} (hk:2000600 ≤ k) {H:Hp} {n:Int} {gs ss x:Sl} {given:List Int} {rs:List R} (hz:PuzAt H n gs ss given rs) (hgn:gs.nil=false) (hp:puzzleV n given (rs.map R.val)=true) (hx:Reads .i64 H x (openOf n given)) :
  ∃ H',laws_FnStartMasks.j2 (callF PP orc k) k x n gs ss H=some (.bool true,H'):=by
 have hn:=hz.n4
 have hok:=openOf_ok (puzzleV_grid hp).1
 have hl:=masks_len hok
 have rg:∀ m ∈ openOf n given,-2 ≤ m∧m ≤ 63:=fun m hm=>by
  have h1:=(maskOk_iff.1 ((masksOk_iff.1 hok).2.1 m hm)).1
  have:=topMask_le n; omega
 obtain ⟨u,H1,a1,a2⟩:=implSolveFirst_ok (show 2000510 ≤ k by omega) hz hgn
 have hx1:=pf_reads a1 hx
 have h2:=implMasksValid_ok (show 2000000 ≤ k by omega) (n:=n) (by omega) hx1 (by omega) rg
 rw [hok] at h2
 unfold laws_FnStartMasks.j2
 rcases a2 with ⟨e1,a2,a3⟩ | ⟨g,e1,a2,a3⟩
 ·refine ⟨H1,?_⟩
  rw [a2,Option.bind_some]
  simp only [AV.isTup,AV.nth,AV.isAgg,AV.cel,AV.toI,AV.toS,AV.toB,Zl,Zm,Zc,Zd,if_true,decide_true,beq_self_eq_true,Zt,Zf,Zy,Zx,Zo]
  rw [h2,Option.bind_some]
  simp only [AV.isTup,AV.nth,AV.isAgg,AV.cel,AV.toI,AV.toS,AV.toB,Zl,Zm,Zc,Zd,if_true,decide_true,beq_self_eq_true,Zt,Zf,Zy,Zx,Zo]
 ·have hg:=first_memS e1
  have h16:=gridOk_len (solG hp hg).1
  have h3:=implMasksHave_ok (show 2000010 ≤ k by omega) (n:=n) (by omega) hx1 a3 (by omega) rg (by omega)
  rw [haveV_iff.2 ⟨hok,(solG hp hg).1,open_in hp hg⟩] at h3
  refine ⟨H1,?_⟩
  rw [a2,Option.bind_some]
  simp only [AV.isTup,AV.nth,AV.isAgg,AV.cel,AV.toI,AV.toS,AV.toB,Zl,Zm,Zc,Zd,if_true,decide_true,beq_self_eq_true,Zt,Zf,Zy,Zx,Zo]
  rw [h2,Option.bind_some]
  simp only [AV.isTup,AV.nth,AV.isAgg,AV.cel,AV.toI,AV.toS,AV.toB,Zl,Zm,Zc,Zd,if_true,decide_true,beq_self_eq_true,Zt,Zf,Zy,Zx,Zo]
  rw [h3,Option.bind_some]
  simp only [AV.isTup,AV.nth,AV.isAgg,AV.cel,AV.toI,AV.toS,AV.toB,Zl,Zm,Zc,Zd,if_true,decide_true,beq_self_eq_true,Zt,Zf,Zy,Zx,Zo]
theorem Start_law_l0 {k:Nat} (hk:2000600 ≤ k) {H0:Hp} {n:Int} {gs ss x:Sl} {given:List Int} {rs:List R} (hz:PuzAt H0 n gs ss given rs) (hgn:gs.nil=false) (hp:puzzleV n given (rs.map R.val)=true) (hx:Reads .i64 H0 x (openOf n given)) :
  ∀ (j i fuel:Nat) (H:Hp),i + j=given.length→j < fuel→H0 <+: H→∃ H',laws_FnStartMasks.l0 (callF PP orc k) k fuel x (i:Int) n gs ss H=some (.bool true,H'):=by
 have hn:=hz.n4
 have hg:=(puzzleV_grid hp).1
 have hok:=openOf_ok hg
 obtain ⟨_,_,g3⟩:=(gridOk_iff given n).1 hg
 have h16:=gridOk_len hg
 have hgl:=hz.rg.len
 have hol:(openOf n given).length=given.length:=by simp [openOf]
 have hxl:=hx.len
 intro j
 induction j with
 | zero=>
  intro i fuel H hi hf hpf
  obtain ⟨fuel,rfl⟩:=Zs fuel (by omega)
  obtain ⟨H',a1⟩:=Start_j2 hk (hz.pf hpf) hgn hp (pf_reads hpf hx)
  exact ⟨H',by simp (disch:=omega) only [laws_FnStartMasks.l0,df,Zf,a1]⟩
 | succ j ih=>
  intro i fuel H hi hf hpf
  obtain ⟨fuel,rfl⟩:=Zs fuel (by omega)
  have hi2:i < given.length:=by omega
  have hv:=g3 _ (mem_getD hi2)
  have rg:=rdn (pf_reads hpf hz.rg) hi2
  have rx:=rdn (pf_reads hpf hx) (i:=i) (by omega)
  have eo:=openOf_at (n:=n) hi2
  by_cases c:given.getD i 0=0
  ·rw [if_neg (by omega)] at eo
   rw [eo] at rx
   obtain ⟨u,H1,a1,a2,a3⟩:=implMaskValues_ok (show 2000000 ≤ k by omega) (n:=n) (m:=topMask n) (by rw [← eo]; exact masks_at hok (by omega)) H
   have hul:=(own_reads a3).len
   have ht:=tab_topvals n.toNat (by omega) (by omega)
   rw [show ((n.toNat:Nat):Int)=n by omega] at ht
   have hul2:(u.len:Int)=n:=by rw [hul]; exact ht
   have rg1:=rdn (pf_reads (hpf.trans a2) hz.rg) hi2
   obtain ⟨H',b1⟩:=ih (i + 1) fuel H1 (by omega) (by omega) (hpf.trans a2)
   push_cast at b1
   refine ⟨H',?_⟩
   simp (disch:=omega) only [laws_FnStartMasks.l0,laws_FnStartMasks.j1,laws_FnStartMasks.j3,dt,Za,Zt,Zf,Zn,Zo,AV.toS,if_true,rg,bt c,rx,a1,nf hul2,rg1,df (show ¬ given.getD i 0 > 0 by omega),wr (n:=(i:Int) + 1),b1]
  ·rw [if_pos (by omega)] at eo
   rw [eo] at rx
   obtain ⟨H',b1⟩:=ih (i + 1) fuel H (by omega) (by omega) hpf
   push_cast at b1
   refine ⟨H',?_⟩
   simp (disch:=omega) only [laws_FnStartMasks.l0,laws_FnStartMasks.j1,laws_FnStartMasks.j3,dt,Za,Zt,Zf,Zn,Zo,rg,bf c,rx,dt (show given.getD i 0 > 0 by omega),iN,m_shl (v:=given.getD i 0),nf,wr (n:=(i:Int) + 1),b1]
theorem StartMasks_law {k:Nat} (hk:2000800 ≤ k) {H:Hp} {s:Sl} {l:List Int} (hs:Reads .u8 H s l) (hb:∀ x ∈ l,0 ≤ x∧x ≤ 255) :
  ∃ H',callF PP orc k laws_FnStartMasks.id [.sl 1 s] H=some (.bool true,H'):=by
 obtain ⟨k,rfl⟩:=Zs k (by omega)
 rw [laws_FnStartMasks.call]
 by_cases hbig:(s.len:Int) > 1048576
 ·exact ⟨H,by simp only [laws_FnStartMasks.f,dt hbig,Zt]⟩
 ·obtain ⟨n,gs,ss,given,rs,H1,a1,a2,a3⟩:=DrawStartMasks_ok (show 2000501 ≤ k by omega) hs hb
  have hz:=a3.at'
  obtain ⟨x,H2,b1,b2,b3⟩:=implStartMasks_ok (show 2000010 ≤ k by omega) hz
  obtain ⟨y,H3,c1,c2,c3⟩:=specStartMasks_ok (show 2000010 ≤ k by omega) (hz.pf b2)
  have hx3:=pf_reads c2 b3.reads
  have hl16:(startV n given (rs.map R.val)).length ≤ 1000:=by
   unfold startV
   split
   ·have:=a3.g16; rw [show (openOf n given).length=given.length by simp [openOf]]; omega
   ·simp
  have sm:=same_ok (show 2000000 ≤ k by omega) hx3 (own_reads c3) hl16
  have hz3:=hz.pf (b2.trans c2)
  have hv:=specPuzzleValid_ok (show 2000003 ≤ k by omega) hz3.n4 hz3.rg hz3.gl hz3.rr hz3.rl hz3.rc
  rw [puzzle_map] at hv
  have hxl:=hx3.len
  unfold laws_FnStartMasks.f
  rw [df hbig,cond_false,a1,Option.bind_some]
  simp only [AV.isTup,AV.nth,AV.isAgg,AV.cel,AV.toI,AV.toS,AV.toB,Zl,Zm,Zc,Zd,if_true,decide_true,beq_self_eq_true,Zt,Zf,Zy,Zx,Zo]
  rw [b1,Option.bind_some]
  simp only [AV.isTup,AV.nth,AV.isAgg,AV.cel,AV.toI,AV.toS,AV.toB,Zl,Zm,Zc,Zd,if_true,decide_true,beq_self_eq_true,Zt,Zf,Zy,Zx,Zo]
  rw [c1,Option.bind_some]
  simp only [AV.isTup,AV.nth,AV.isAgg,AV.cel,AV.toI,AV.toS,AV.toB,Zl,Zm,Zc,Zd,if_true,decide_true,beq_self_eq_true,Zt,Zf,Zy,Zx,Zo]
  rw [sm,Option.bind_some]
  simp only [AV.isTup,AV.nth,AV.isAgg,AV.cel,AV.toI,AV.toS,AV.toB,Zl,Zm,Zc,Zd,if_true,decide_true,beq_self_eq_true,Zt,Zf,Zy,Zx,Zo]
  rw [hv,Option.bind_some]
  unfold startV at hx3 hxl
  cases hp:puzzleV n given (rs.map R.val) with
  | false=>
   rw [iN (by rw [hp]; simp)] at hxl
   obtain ⟨H4,d1,d2⟩:=alive_ok (show 2000002 ≤ k by omega) H3
   refine ⟨H4,?_⟩
   simp only [AV.isTup,AV.nth,AV.isAgg,AV.cel,AV.toI,AV.toS,AV.toB,Zl,Zm,Zc,Zd,if_true,decide_true,beq_self_eq_true,Zt,Zf,Zy,Zx,Zo]
   rw [bt (show (x.len:Int)=0 by rw [hxl]; rfl),cond_true,d1,Option.bind_some]
   simp only [AV.isTup,AV.nth,AV.isAgg,AV.cel,AV.toI,AV.toS,AV.toB,Zl,Zm,Zc,Zd,if_true,decide_true,beq_self_eq_true,Zt,Zf,Zy,Zx,Zo]
  | true=>
   rw [ip hp] at hx3 hxl
   have h16:=a3.g16
   obtain ⟨H',d1⟩:=Start_law_l0 (show 2000600 ≤ k by omega) hz3 a3.gn hp hx3 given.length 0 k H3 (by omega) (by omega) (List.prefix_refl _)
   refine ⟨H',?_⟩
   simp only [Int.natCast_zero] at d1
   simp only [AV.isTup,AV.nth,AV.isAgg,AV.cel,AV.toI,AV.toS,AV.toB,Zl,Zm,Zc,Zd,if_true,decide_true,beq_self_eq_true,Zt,Zf,Zy,Zx,Zo]
   exact d1
end Go.Proofs.Ytjikkamhljbipaa.Rp
