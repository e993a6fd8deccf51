/- Texts for the row of the law FnEasySteps, part 19: the plain machine, the program's functions on it, what they come to. No conditions. -/
import Derived.Test.YtchliocobgkmbaaBuFnEasySteps18
import Derived.Test.YtchliocobgkmbaaBuFnEasySteps8
import Derived.Test.YtchliocobgkmbaaBuFnEasySteps9
import Derived.Test.YtchliocobgkmbaaBuFnEasySteps10
import Derived.Test.YtchliocobgkmbaaBuFnEasySteps11
import Derived.Test.YtchliocobgkmbaaBuFnEasySteps12
import Derived.Test.YtchliocobgkmbaaBuFnEasySteps15
set_option linter.unusedVariables false
set_option linter.unusedSimpArgs false
namespace Go.Proofs.Ytchliocobgkmbaa.Rp
open Go Go.RowKit Go.Proofs.Ytchliocobgkmbaa.Ab
theorem row_ok {N i kk:Nat} (hN:N=2 ∨ N=3 ∨ N=4) (hi:i ≤ 100) (hk:kk ≤ 100):IntKind.i64.wrap (IntKind.i64.wrap (IntKind.i64.wrap ((i:Int).tdiv (N:Int)) * (N:Int)) + (kk:Int))=((i / N * N + kk:Nat):Int)∧IntKind.i64.wrap (IntKind.i64.wrap ((kk:Int) * (N:Int)) + (i:Int).tmod (N:Int))=((kk * N + i % N:Nat):Int):=by
 rw [tdivN,tmodN]
 have d:=Nat.div_le_self i N
 have m:i % N < N:=Nat.mod_lt _ (by omega)
 rcases hN with rfl | rfl | rfl
 ·rw [wr (n:=((i / 2:Nat):Int)) (by omega) (by omega),wr (n:=((i / 2:Nat):Int) * ((2:Nat):Int)) (by omega) (by omega),wr (n:=((i / 2:Nat):Int) * ((2:Nat):Int) + (kk:Int)) (by omega) (by omega),wr (n:=(kk:Int) * ((2:Nat):Int)) (by omega) (by omega),wr (n:=(kk:Int) * ((2:Nat):Int) + ((i % 2:Nat):Int)) (by omega) (by omega)]
  constructor <;> (push_cast; omega)
 ·rw [wr (n:=((i / 3:Nat):Int)) (by omega) (by omega),wr (n:=((i / 3:Nat):Int) * ((3:Nat):Int)) (by omega) (by omega),wr (n:=((i / 3:Nat):Int) * ((3:Nat):Int) + (kk:Int)) (by omega) (by omega),wr (n:=(kk:Int) * ((3:Nat):Int)) (by omega) (by omega),wr (n:=(kk:Int) * ((3:Nat):Int) + ((i % 3:Nat):Int)) (by omega) (by omega)]
  constructor <;> (push_cast; omega)
 ·rw [wr (n:=((i / 4:Nat):Int)) (by omega) (by omega),wr (n:=((i / 4:Nat):Int) * ((4:Nat):Int)) (by omega) (by omega),wr (n:=((i / 4:Nat):Int) * ((4:Nat):Int) + (kk:Int)) (by omega) (by omega),wr (n:=(kk:Int) * ((4:Nat):Int)) (by omega) (by omega),wr (n:=(kk:Int) * ((4:Nat):Int) + ((i % 4:Nat):Int)) (by omega) (by omega)]
  constructor <;> (push_cast; omega)
theorem peer_iff {N x i:Nat} (hN:N=2 ∨ N=3 ∨ N=4) (hx:x < N * N) (hi:i < N * N):(∃ u,u < N∧(x=i / N * N + u ∨ x=u * N + i % N)∧x ≠ i) ↔ peer N x i:=by
 unfold peer
 constructor
 ·rintro ⟨u,hu,h,hne⟩
  refine ⟨hne,?_⟩
  rcases hN with rfl | rfl | rfl <;> omega
 ·rintro ⟨hne,h⟩
  rcases h with h | h
  ·refine ⟨x % N,Nat.mod_lt _ (by omega),.inl ?_,hne⟩
   rcases hN with rfl | rfl | rfl <;> omega
  ·refine ⟨x / N,?_,.inr ?_,hne⟩
   ·rcases hN with rfl | rfl | rfl <;> omega
   ·rcases hN with rfl | rfl | rfl <;> omega
theorem iSing_l4 (rec:Rec) (k:Nat) (L0:Int→Sl→Sl→Int→Int→Hp→An) (L2:Int→Sl→Int→Int→Sl→Int→Int→Int→Int→Hp→An) {H0 Hb:Hp} {n x18 x19 x27 x28 m:Int} {i:Nat} {t xs x17:Sl} {l cs:List Int} (hm:M m) (hcl:cs.length ≤ 10) (hin:∀ c ∈ cs,0 ≤ c∧c < (l.length:Int)) (hl:l.length ≤ 100) (htb:t.blk < Hb.length) :
  ∀ (j q fuel:Nat) (H:Hp) (a:List Int) (P:Nat→Nat→Prop),q + j=cs.length→j < fuel→H0 <+: H→Own 1 Hb H xs (cs.map (.int .i64))→Own 1 H0 H t (a.map (.int .i64))→Sub l a P →
   ∃ H' a',impl_NarrowSingles.l4 rec k L0 L2 fuel n t i m x17 x18 x19 x27 x28 xs (cs.length:Int) q H=L2 n t i m x17 x18 x19 x27 (IntKind.i64.wrap (x28 + 1)) H'∧H0 <+: H'∧Own 1 H0 H' t (a'.map (.int .i64))∧Adv t.blk H H'∧Sub l a' (fun x v=>P x v ∨ ∃ u,q ≤ u∧u < cs.length∧(x:Int)=cs.getD u 0∧x ≠ i∧has m v=true):=by
 intro j
 induction j with
 | zero=>
  intro q fuel H a P hq hf hp hx ho hs
  obtain ⟨fuel,rfl⟩:=Zs fuel (by omega)
  refine ⟨H,a,?_,hp,ho,Adv.refl _ _,hs.congr fun x v hx=>⟨.inl,by rintro (h | ⟨u,h1,h2,_⟩); exact h; omega⟩⟩
  simp (disch:=omega) only [impl_NarrowSingles.l4,impl_NarrowSingles.j6,df,Zf]
 | succ j ih=>
  intro q fuel H a P hq hf hp hx ho hs
  obtain ⟨fuel,rfl⟩:=Zs fuel (by omega)
  have hq2:q < cs.length:=by omega
  obtain ⟨c0,c1⟩:=hin _ (mem_getD hq2)
  have hal:=hs.len
  have htl:=(own_reads ho).len
  have hxl:=(own_reads hx).len
  have hrx:=rdn (own_reads hx) hq2
  obtain ⟨c,hc⟩:=Int.eq_ofNat_of_zero_le c0
  rw [hc] at hrx c1
  by_cases e:c=i
  ·obtain ⟨H',a',b1,b2,b3,b4,b5⟩:=ih (q + 1) fuel H a P (by omega) (by omega) hp hx ho hs
   push_cast at b1
   refine ⟨H',a',?_,b2,b3,b4,b5.congr fun x v hxl=>?_⟩
   ·simp (disch:=omega) only [impl_NarrowSingles.l4,impl_NarrowSingles.j5,dt,nf,Za,Zt,Zf,Zn,Zo,hrx,wr (n:=(q:Int) + 1),b1]
   ·constructor
    ·rintro (h | ⟨u,h1,h2⟩)
     ·exact .inl h
     ·exact .inr ⟨u,by omega,h2⟩
    ·rintro (h | ⟨u,h1,h2,h3,h4,h5⟩)
     ·exact .inl h
     ·refine .inr ⟨u,?_,h2,h3,h4,h5⟩
      by_cases eu:u=q
      ·subst eu; rw [hc] at h3; omega
      ·omega
  ·obtain ⟨H1,a1,a2,a3,a4⟩:=own_set1 ho hp c (by omega) (mSub (a.getD c 0) m)
   obtain ⟨H',a',b1,b2,b3,b4,b5⟩:=ih (q + 1) fuel H1 _ _ (by omega) (by omega) a2 (a4.own htb hx) a3 (hs.step c (by omega) hm)
   push_cast at b1
   refine ⟨H',a',?_,b2,b3,a4.trans b4,b5.congr fun x v hxl=>?_⟩
   ·simp (disch:=omega) only [impl_NarrowSingles.l4,impl_NarrowSingles.j5,dt,nt,Za,Zt,Zn,Zo,hrx,rdn (own_reads ho),m_sub (hs.ms.at c) hm,a1,wr (n:=(q:Int) + 1),b1]
   ·constructor
    ·rintro ((h | ⟨h1,h2⟩) | ⟨u,h1,h2⟩)
     ·exact .inl h
     ·exact .inr ⟨q,Nat.le_refl _,hq2,by rw [hc,h1],by omega,h2⟩
     ·exact .inr ⟨u,by omega,h2⟩
    ·rintro (h | ⟨u,h1,h2,h3,h4,h5⟩)
     ·exact .inl (.inl h)
     ·by_cases eu:u=q
      ·subst eu; rw [hc] at h3; exact .inl (.inr ⟨by omega,h5⟩)
      ·exact .inr ⟨u,by omega,h2,h3,h4,h5⟩
theorem iSing_l2 (rec:Rec) (k:Nat) (hk:100 ≤ k) (L0:Int→Sl→Sl→Int→Int→Hp→An) {H0:Hp} {N i:Nat} {x18 m:Int} {t x17:Sl} {l:List Int} (hN:N=2 ∨ N=3 ∨ N=4) (hl:l.length=N * N) (hi:i < l.length) (hm:M m) :
  ∀ (j kk fuel:Nat) (H:Hp) (a:List Int) (P:Nat→Nat→Prop),kk + j=N→j < fuel→H0 <+: H→Own 1 H0 H t (a.map (.int .i64))→Sub l a P →
   ∃ H' a',impl_NarrowSingles.l2 rec k L0 fuel (N:Int) t i m x17 x18 i (N:Int) kk H=L0 (N:Int) t x17 x18 ((i:Int) + 1) H'∧H0 <+: H'∧Own 1 H0 H' t (a'.map (.int .i64))∧Sub l a' (fun x v=>P x v ∨ ∃ u,kk ≤ u∧u < N∧(x=i / N * N + u ∨ x=u * N + i % N)∧x ≠ i∧has m v=true):=by
 have hl16:l.length ≤ 16:=by rcases hN with rfl | rfl | rfl <;> omega
 intro j
 induction j with
 | zero=>
  intro kk fuel H a P hq hf hp ho hs
  obtain ⟨fuel,rfl⟩:=Zs fuel (by omega)
  refine ⟨H,a,?_,hp,ho,hs.congr fun x v hx=>⟨.inl,by rintro (h | ⟨u,h1,h2,_⟩); exact h; omega⟩⟩
  simp (disch:=omega) only [impl_NarrowSingles.l2,impl_NarrowSingles.j1,df,Zf,wr (n:=(i:Int) + 1)]
 | succ j ih=>
  intro kk fuel H a P hq hf hp ho hs
  obtain ⟨fuel,rfl⟩:=Zs fuel (by omega)
  obtain ⟨r1,r2⟩:=row_ok (i:=i) (kk:=kk) hN (by omega) (by omega)
  have q1:H <+: H ++ [some (Blk.mk false (([((i / N * N + kk:Nat):Int),((kk * N + i % N:Nat):Int)]:List Int).map (.int .i64)))]:=List.prefix_append _ _
  have hnew:=own_new 1 H (([((i / N * N + kk:Nat):Int),((kk * N + i % N:Nat):Int)]:List Int).map (.int .i64)) 2 rfl
  obtain ⟨H1,a1,b1,b2,b3,b4,b5⟩:=iSing_l4 rec k L0 (impl_NarrowSingles.l2 rec k L0 fuel) (n:=(N:Int)) (x17:=x17) (x18:=x18) (x19:=(i:Int)) (x27:=(N:Int)) (x28:=(kk:Int)) (i:=i) hm (cs:=[((i / N * N + kk:Nat):Int),((kk * N + i % N:Nat):Int)]) (l:=l) (by simp) (fun c hc=>by
   simp only [List.mem_cons,List.not_mem_nil,or_false] at hc
   rcases hN with rfl | rfl | rfl <;> omega) (by omega) (own_lt' ho) 2 0 k (H ++ [some (Blk.mk false (([((i / N * N + kk:Nat):Int),((kk * N + i % N:Nat):Int)]:List Int).map (.int .i64)))]) a P (by simp) (by omega) (hp.trans q1) hnew (own_pf ho q1) hs
  obtain ⟨H',a',d1,d2,d3,d4⟩:=ih (kk + 1) fuel H1 a1 _ (by omega) (by omega) b2 b3 b5
  push_cast at d1
  refine ⟨H',a',?_,d2,d3,d4.congr fun x v hxl=>?_⟩
  ·simp only [List.map_cons,List.map_nil,Zl,Zm,Int.natCast_zero] at b1
   simp (disch:=omega) only [impl_NarrowSingles.l2,dt,Zt,iN (show ¬ ((N:Int)=0) by omega),r1,r2]
   refine Eq.trans b1 ?_
   rw [wr (n:=(kk:Int) + 1) (by omega) (by omega)]
   exact d1
  ·constructor
   ·rintro ((h | ⟨u,h1,h2,h3,h4⟩) | ⟨u,h1,h2⟩)
    ·exact .inl h
    ·have:u=0 ∨ u=1:=by simp at h2; omega
     rcases this with rfl | rfl
     ·exact .inr ⟨kk,Nat.le_refl _,by omega,.inl (by simpa using Int.ofNat_inj.1 h3),h4⟩
     ·exact .inr ⟨kk,Nat.le_refl _,by omega,.inr (by simpa using Int.ofNat_inj.1 h3),h4⟩
    ·exact .inr ⟨u,by omega,h2⟩
   ·rintro (h | ⟨u,h1,h2,h3,h4⟩)
    ·exact .inl (.inl h)
    ·by_cases eu:u=kk
     ·subst eu
      rcases h3 with h3 | h3
      ·exact .inl (.inr ⟨0,by omega,by simp,by rw [h3]; rfl,h4⟩)
      ·exact .inl (.inr ⟨1,by omega,by simp,by rw [h3]; rfl,h4⟩)
     ·exact .inr ⟨u,by omega,h2,h3,h4⟩
theorem iSing_l0 {k:Nat} (hk:2000000 ≤ k) {H0:Hp} {ms t:Sl} {l:List Int} {N:Nat} {n:Int} (hN:N=2 ∨ N=3 ∨ N=4) (hnN:n=(N:Int)) (hm:Reads .i64 H0 ms l) (hv:masksOk n l=true) (hll:l.length=N * N) :
  ∀ (j i fuel:Nat) (H:Hp) (a:List Int) (P:Nat→Nat→Prop),i + j=l.length→j < fuel→H0 <+: H→Own 1 H0 H t (a.map (.int .i64))→Sub l a P →
   ∃ H' a',impl_NarrowSingles.l0 (callF PP orc k) k fuel (N:Int) t ms (l.length:Int) i H=some (.sl 1 t,H')∧H0 <+: H'∧Own 1 H0 H' t (a'.map (.int .i64))∧Sub l a' (fun x v=>P x v ∨ ∃ q,i ≤ q∧q < l.length∧peer N x q∧single (l.getD q 0)=true∧has (l.getD q 0) v=true):=by
 have hml:=hm.len
 have hM:=masks_M hv
 have hl16:l.length ≤ 16:=by rcases hN with rfl | rfl | rfl <;> omega
 intro j
 induction j with
 | zero=>
  intro i fuel H a P hi hf hp ho hs
  obtain ⟨fuel,rfl⟩:=Zs fuel (by omega)
  refine ⟨H,a,?_,hp,ho,hs.congr fun x v hx=>⟨.inl,by rintro (h | ⟨q,h1,h2,_⟩); exact h; omega⟩⟩
  simp (disch:=omega) only [impl_NarrowSingles.l0,impl_NarrowSingles.j3,df,Zf]
 | succ j ih=>
  intro i fuel H a P hi hf hp ho hs
  obtain ⟨fuel,rfl⟩:=Zs fuel (by omega)
  have hi2:i < l.length:=by omega
  have hrd:=pf_reads hp hm
  have h1:=onlyValue_ok hk (masks_at hv hi2) H
  obtain ⟨o1,o2⟩:=oneOf_single (masks_at hv hi2)
  cases es:single (l.getD i 0) with
  | true=>
   have h0:=(o2 es).2
   obtain ⟨H2,a',b1,b2,b3,b4⟩:=iSing_l2 (callF PP orc k) k (by omega) (impl_NarrowSingles.l0 (callF PP orc k) k fuel) (x17:=ms) (x18:=(l.length:Int)) hN hll hi2 (hM.at i) N 0 k H a P (by omega) (by omega) hp ho hs
   obtain ⟨H',a'',d1,d2,d3,d4⟩:=ih (i + 1) fuel H2 a' _ (by omega) (by omega) b2 b3 b4
   push_cast at d1
   refine ⟨H',a'',?_,d2,d3,d4.congr fun x v hx=>?_⟩
   ·simp only [Int.natCast_zero] at b1
    simp (disch:=omega) only [impl_NarrowSingles.l0,dt,bf,Za,Zt,Zf,Zn,Zo,AV.toI,if_true,rdn hrd,h1,b1,d1]
   ·constructor
    ·rintro ((h | ⟨u,_,h2,h3,h4,h5⟩) | ⟨q,h1,h2⟩)
     ·exact .inl h
     ·exact .inr ⟨i,Nat.le_refl _,hi2,(peer_iff hN (by omega) (by omega)).1 ⟨u,h2,h3,h4⟩,es,h5⟩
     ·exact .inr ⟨q,by omega,h2⟩
    ·rintro (h | ⟨q,h1,h2,h3,h4,h5⟩)
     ·exact .inl (.inl h)
     ·by_cases e:q=i
      ·subst e
       obtain ⟨u,u1,u2,u3⟩:=(peer_iff hN (by omega) (by omega)).2 h3
       exact .inl (.inr ⟨u,by omega,u1,u2,u3,h5⟩)
      ·exact .inr ⟨q,by omega,h2,h3,h4,h5⟩
  | false=>
   have h0:=o1.2 es
   obtain ⟨H',a'',d1,d2,d3,d4⟩:=ih (i + 1) fuel H a P (by omega) (by omega) hp ho hs
   push_cast at d1
   refine ⟨H',a'',?_,d2,d3,d4.congr fun x v hx=>?_⟩
   ·simp (disch:=omega) only [impl_NarrowSingles.l0,impl_NarrowSingles.j1,dt,bt,Za,Zt,Zf,Zn,Zo,AV.toI,if_true,rdn hrd,h1,wr (n:=(i:Int) + 1),d1]
   ·constructor
    ·rintro (h | ⟨q,h1,h2⟩)
     ·exact .inl h
     ·exact .inr ⟨q,by omega,h2⟩
    ·rintro (h | ⟨q,h1,h2,h3,h4,h5⟩)
     ·exact .inl h
     ·refine .inr ⟨q,?_,h2,h3,h4,h5⟩
      by_cases e:q=i
      ·subst e; rw [es] at h4; cases h4
      ·omega
theorem implNarrowSingles_ok {k:Nat} (hk:2000010 ≤ k) {H:Hp} {ms:Sl} {l:List Int} {n:Int} (hb:-1 ≤ n∧n ≤ 5) (hm:Reads .i64 H ms l) (hnn:ms.nil=false) (hl:l.length ≤ 1000) (hr:∀ m ∈ l,-2 ≤ m∧m ≤ 63) :
  ∃ t H',callF PP orc k impl_NarrowSingles.id [.sl 1 ms,.int .i64 n] H=some (.sl 1 t,H')∧H <+: H'∧NilOr H H' t (singlesV n l):=by
 obtain ⟨k,rfl⟩:=Zs k (by omega)
 rw [impl_NarrowSingles.call]
 have h1:=implMasksValid_ok (show 2000000 ≤ k by omega) hb hm hl hr
 have hml:=hm.len
 unfold singlesV
 cases hv:masksOk n l with
 | false=>
  rw [hv] at h1
  rw [iN (by simp)]
  exact ⟨Sl.none,H,by simp only [impl_NarrowSingles.f,dt,df,bt,bf,nt,nf,Za,Zy,Zx,Zt,Zf,Zn,Zz,Zi,Zo,wr,AV.toB,AV.toI,AV.toS,if_true,h1],(List.prefix_refl _),.inl ⟨rfl,rfl⟩⟩
 | true=>
  rw [hv] at h1
  rw [ip rfl]
  obtain ⟨l4,l16,lN,hN,n2,n4⟩:=masks_len hv
  have hM:=masks_M hv
  have h2:=Clone_own (show 1 ≤ k by omega) hm hnn hl
  have hnew:=own_new 1 H (l.map (.int .i64)) l.length (by simp)
  obtain ⟨H',a',b1,b2,b3,b4⟩:=iSing_l0 (show 2000000 ≤ k by omega) (N:=n.toNat) (by omega) hN hm hv lN l.length 0 k (H ++ [some (Blk.mk false (l.map (.int .i64)))]) l _ (by omega) (by omega) (List.prefix_append _ _) hnew (Sub.refl hM)
  rw [← hN] at b1
  have e:a'=subAll l (PS n.toNat l):=(b4.congr fun x v hx=>(show _ ↔ PS n.toNat l x v from ⟨by rintro (h | ⟨q,_,h⟩); exact h.elim; exact ⟨q,h⟩,fun ⟨q,h⟩=>.inr ⟨q,by omega,h⟩⟩)).eq hM
  subst e
  refine ⟨_,H',?_,b2,.inr b3⟩
  simp only [Int.natCast_zero] at b1
  simp only [impl_NarrowSingles.f,dt,df,bt,bf,nt,nf,Za,Zy,Zx,Zt,Zf,Zn,Zz,Zi,Zo,wr,AV.toB,AV.toI,AV.toS,if_true,h1,h2,hml,b1]
theorem iHid_l3 (rec:Rec) (k:Nat) (L0:Sl→Int→Sl→Int→Int→Hp→An) (L1:Sl→Int→Sl→Int→Int→Int→Int→Hp→An) {H:Hp} {ms t cs:Sl} {l cells:List Int} {n line x19 x20:Int} {v:Nat} (hm:Reads .i64 H ms l) (hc:Reads .i64 H cs cells) (hcl:cells.length ≤ 10) (hin:∀ c ∈ cells,0 ≤ c∧c.toNat < l.length∧c < (l.length:Int)) (hM:Ms l) (hv:1 ≤ v∧v ≤ 4) :
  ∀ (j q fuel:Nat) (many at':Int),q + j=cells.length→j < fuel→0 ≤ many→many ≤ q →
   ∃ at2,impl_NarrowHidden.l3 rec k L0 L1 fuel ms n t line v at' many x19 x20 cs (cells.length:Int) q H=impl_NarrowHidden.j6 rec k L0 L1 ms n t line v at2 (many + ((cells.drop q).filter fun c=>has (l.getD c.toNat 0) v).length) x19 x20 H∧(∀ c,many=0→(cells.drop q).filter (fun c=>has (l.getD c.toNat 0) v)=[c]→at2=c)∧((cells.drop q).filter (fun c=>has (l.getD c.toNat 0) v)=[]→at2=at'):=by
 have hml:=hm.len
 have hcs:=hc.len
 intro j
 induction j with
 | zero=>
  intro q fuel many at' hq hf h0 h1
  obtain ⟨fuel,rfl⟩:=Zs fuel (by omega)
  rw [List.drop_eq_nil_of_le (by omega)]
  refine ⟨at',?_,fun c _ h=>(by cases h),fun _=>rfl⟩
  simp (disch:=omega) only [impl_NarrowHidden.l3,dt,df,bt,bf,nt,nf,Za,Zy,Zx,Zt,Zf,Zn,Zz,Zi,Zo,wr,AV.toB,AV.toI,AV.toS,if_true,List.filter_nil,Zm,Int.natCast_zero,Int.add_zero]
 | succ j ih=>
  intro q fuel many at' hq hf h0 h1
  obtain ⟨fuel,rfl⟩:=Zs fuel (by omega)
  have hq2:q < cells.length:=by omega
  obtain ⟨c0,c1,c2⟩:=hin _ (mem_getD hq2)
  have hd:cells.drop q=cells.getD q 0 :: cells.drop (q + 1):=by
   rw [List.drop_eq_getElem_cons hq2,List.getD_eq_getElem?_getD,List.getElem?_eq_getElem hq2]; rfl
  rw [hd,List.filter_cons]
  have hb:=m_bit' (v:=(v:Int)) (hM.at (cells.getD q 0).toNat) (by omega) (by omega)
  rw [Int.toNat_natCast] at hb
  cases hh:has (l.getD (cells.getD q 0).toNat 0) v with
  | true=>
   rw [hh] at hb
   obtain ⟨at2,a1,a2,a3⟩:=ih (q + 1) fuel (many + 1) (cells.getD q 0) (by omega) (by omega) (by omega) (by omega)
   push_cast at a1
   rw [if_pos rfl,List.length_cons]
   refine ⟨at2,?_,fun c hm0 he=>?_,fun h=>by cases h⟩
   ·push_cast
    rw [show many + ((((cells.drop (q + 1)).filter fun c=>has (l.getD c.toNat 0) v).length:Int) + 1)=many + 1 + (((cells.drop (q + 1)).filter fun c=>has (l.getD c.toNat 0) v).length:Int) by omega,← a1]
    simp (disch:=omega) only [impl_NarrowHidden.l3,impl_NarrowHidden.j5,dt,df,Za,Zt,Zn,Zo,rdn hc,rdn hm,iN,hb,wr (n:=many + 1),wr (n:=(q:Int) + 1)]
   ·rw [List.cons.injEq] at he
    rw [a3 he.2]; exact he.1
  | false=>
   rw [hh] at hb
   obtain ⟨at2,a1,a2,a3⟩:=ih (q + 1) fuel many at' (by omega) (by omega) h0 (by omega)
   push_cast at a1
   rw [if_neg (by simp)]
   refine ⟨at2,?_,a2,a3⟩
   rw [← a1]
   simp (disch:=omega) only [impl_NarrowHidden.l3,impl_NarrowHidden.j5,dt,df,Za,Zt,Zf,Zn,Zo,rdn hc,rdn hm,iN,hb,wr (n:=(q:Int) + 1)]
theorem iHid_l1 {k:Nat} (hk:2000000 ≤ k) (L0:Sl→Int→Sl→Int→Int→Hp→An) {H0:Hp} {ms t:Sl} {l:List Int} {n x19:Int} {line:Nat} (hmk:masksOk n l=true) (hm:Reads .i64 H0 ms l) (hline:(line:Int) < 2 * n) :
  ∀ (j v fuel:Nat) (H:Hp) (a:List Int) (P:Nat→Nat→Prop),(v:Int) + j=n + 1→1 ≤ v→j < fuel→H0 <+: H→Own 1 H0 H t (a.map (.int .i64))→Sub l a P →
   ∃ H' a',impl_NarrowHidden.l1 (callF PP orc k) k L0 fuel ms n t line v x19 line H=L0 ms n t x19 ((line:Int) + 1) H'∧H0 <+: H'∧Own 1 H0 H' t (a'.map (.int .i64))∧Sub l a' (fun x w=>P x w ∨ ∃ u:Nat,v ≤ u∧(u:Int) ≤ n∧lineHas n l line u=[(x:Int)]∧w ≠ u):=by
 obtain ⟨l4,l16,lN,hN,n2,n4⟩:=masks_len hmk
 have hM:=masks_M hmk
 have hlc:=lineCells_len n line
 intro j
 induction j with
 | zero=>
  intro v fuel H a P hv hv1 hf hp ho hs
  obtain ⟨fuel,rfl⟩:=Zs fuel (by omega)
  refine ⟨H,a,?_,hp,ho,hs.congr fun x w hx=>⟨.inl,by rintro (h | ⟨u,h1,h2,_⟩); exact h; omega⟩⟩
  simp (disch:=omega) only [impl_NarrowHidden.l1,impl_NarrowHidden.j4,df,Zf,wr (n:=(line:Int) + 1)]
 | succ j ih=>
  intro v fuel H a P hv hv1 hf hp ho hs
  obtain ⟨fuel,rfl⟩:=Zs fuel (by omega)
  have hal:=hs.len
  have htl:t.len=a.length:=by have:=ho.len; simpa using this
  obtain ⟨cs,Hc,a1,a2,a3⟩:=implLineCells_own hk (n:=n) (line:=(line:Int)) ⟨by omega,by omega⟩ ⟨by omega,hline⟩ H
  have hpc:=hp.trans a2
  have hoc:=own_pf ho a2
  have hcl:=(own_reads a3).len
  obtain ⟨at2,b1,b2,b3⟩:=iHid_l3 (callF PP orc k) k L0 (impl_NarrowHidden.l1 (callF PP orc k) k L0 fuel) (t:=t) (n:=n) (line:=(line:Int)) (x19:=x19) (x20:=(line:Int)) (pf_reads hpc hm) (own_reads a3) (by omega) (fun c h=>line_in hmk h) hM (v:=v) ⟨hv1,by omega⟩ (lineCells n line).length 0 k 0 0 (by omega) (by omega) (by omega) (by omega)
  simp only [List.drop_zero,Int.natCast_zero,Int.zero_add] at b1 b2
  have hlh:(lineCells n line).filter (fun c=>has (l.getD c.toNat 0) v)=lineHas n l line v:=rfl
  rw [hlh] at b1 b2
  by_cases c:(lineHas n l line v).length=1
  ·obtain ⟨x0,hx0⟩:=List.length_eq_one_iff.1 c
   have hat:=b2 x0 (by first | rfl | trivial) hx0
   have hxm:x0 ∈ lineCells n line:=(List.mem_filter.1 (show x0 ∈ lineHas n l line v by rw [hx0]; simp)).1
   obtain ⟨q0,q1,q2⟩:=line_in hmk hxm
   have hpm:M (pw (v:Int)):=M.pw (by omega) (by omega)
   have h31:M (mSub 31 (pw (v:Int))):=M.sub ⟨by decide,by decide⟩ hpm
   obtain ⟨H1,d1,d2,d3,d4⟩:=own_set1 hoc hpc x0.toNat (by omega) (mAnd (a.getD x0.toNat 0) (pw (v:Int)))
   have hs1:=hs.step x0.toNat q1 h31
   rw [← and_sub (hs.ms.at _) hpm] at hs1
   obtain ⟨H',a',e1,e2,e3,e4⟩:=ih (v + 1) fuel H1 _ _ (by omega) (by omega) (by omega) d2 d3 hs1
   push_cast at e1
   refine ⟨H',a',?_,e2,e3,e4.congr5 hM fun x w hx hw=>?_⟩
   ·rw [c] at b1
    subst hat
    simp only [Int.natCast_one] at b1
    simp (disch:=omega) only [impl_NarrowHidden.l1,dt,Zt,a1,hcl,AV.toS,if_true,b1,impl_NarrowHidden.j6,bt,Za,Zo,rdn (own_reads hoc),iN,m_shl (v:=(v:Int)),m_and (hs.ms.at _) hpm,d1,impl_NarrowHidden.j7,wr (n:=(v:Int) + 1),e1]
   ·have hnot:Rp.has (mSub 31 (pw (v:Int))) w=true ↔ w ≠ v:=by
     rcases has_all w hw (pw (v:Int)) with e | e
     ·rw [e,has_pw (by omega)]
      simp only [Bool.not_eq_true',decide_eq_false_iff_not]
      constructor <;> (intro h e; apply h; omega)
     ·exact absurd hpm e
    constructor
    ·rintro ((h | ⟨h1,h2⟩) | ⟨u,h1,h2⟩)
     ·exact .inl h
     ·subst h1
      exact .inr ⟨v,Nat.le_refl _,by omega,by rw [hx0]; congr 1; omega,hnot.1 h2⟩
     ·exact .inr ⟨u,by omega,h2⟩
    ·rintro (h | ⟨u,h1,h2,h3,h4⟩)
     ·exact .inl (.inl h)
     ·by_cases e:u=v
      ·subst e
       rw [hx0,List.cons.injEq] at h3
       exact .inl (.inr ⟨by omega,hnot.2 h4⟩)
      ·exact .inr ⟨u,by omega,h2,h3,h4⟩
  ·obtain ⟨H',a',e1,e2,e3,e4⟩:=ih (v + 1) fuel Hc a P (by omega) (by omega) (by omega) hpc hoc hs
   push_cast at e1
   refine ⟨H',a',?_,e2,e3,e4.congr fun x w hx=>?_⟩
   ·simp (disch:=omega) only [impl_NarrowHidden.l1,dt,Zt,a1,hcl,AV.toS,if_true,Zo,b1,impl_NarrowHidden.j6,bf,Zf,impl_NarrowHidden.j7,wr (n:=(v:Int) + 1),e1]
   ·constructor
    ·rintro (h | ⟨u,h1,h2⟩)
     ·exact .inl h
     ·exact .inr ⟨u,by omega,h2⟩
    ·rintro (h | ⟨u,h1,h2,h3,h4⟩)
     ·exact .inl h
     ·refine .inr ⟨u,?_,h2,h3,h4⟩
      by_cases e:u=v
      ·subst e; rw [h3] at c; exact absurd rfl c
      ·omega
theorem iHid_l0 {k:Nat} (hk:2000000 ≤ k) {H0:Hp} {ms t:Sl} {l:List Int} {n:Int} (hmk:masksOk n l=true) (hm:Reads .i64 H0 ms l) :
  ∀ (j line fuel:Nat) (H:Hp) (a:List Int) (P:Nat→Nat→Prop),(line:Int) + j=2 * n→j < fuel→H0 <+: H→Own 1 H0 H t (a.map (.int .i64))→Sub l a P →
   ∃ H' a',impl_NarrowHidden.l0 (callF PP orc k) k fuel ms n t (2 * n) line H=some (.sl 1 t,H')∧H0 <+: H'∧Own 1 H0 H' t (a'.map (.int .i64))∧Sub l a' (fun x w=>P x w ∨ ∃ ln u:Nat,line ≤ ln∧(ln:Int) < 2 * n∧1 ≤ u∧(u:Int) ≤ n∧lineHas n l ln u=[(x:Int)]∧w ≠ u):=by
 obtain ⟨l4,l16,lN,hN,n2,n4⟩:=masks_len hmk
 intro j
 induction j with
 | zero=>
  intro line fuel H a P hl hf hp ho hs
  obtain ⟨fuel,rfl⟩:=Zs fuel (by omega)
  refine ⟨H,a,?_,hp,ho,hs.congr fun x w hx=>⟨.inl,by rintro (h | ⟨ln,u,h1,h2,_⟩); exact h; omega⟩⟩
  simp (disch:=omega) only [impl_NarrowHidden.l0,impl_NarrowHidden.j2,df,Zf]
 | succ j ih=>
  intro line fuel H a P hl hf hp ho hs
  obtain ⟨fuel,rfl⟩:=Zs fuel (by omega)
  obtain ⟨H2,a',b1,b2,b3,b4⟩:=iHid_l1 hk (impl_NarrowHidden.l0 (callF PP orc k) k fuel) (x19:=2 * n) hmk hm (line:=line) (by omega) n.toNat 1 k H a P (by omega) (by omega) (by omega) hp ho hs
  obtain ⟨H',a'',d1,d2,d3,d4⟩:=ih (line + 1) fuel H2 a' _ (by omega) (by omega) b2 b3 b4
  push_cast at d1
  refine ⟨H',a'',?_,d2,d3,d4.congr fun x w hx=>?_⟩
  ·simp only [Int.natCast_one] at b1
   simp (disch:=omega) only [impl_NarrowHidden.l0,dt,Zt,b1,d1]
  ·constructor
   ·rintro ((h | ⟨u,h1,h2,h3,h4⟩) | ⟨ln,u,h1,h2⟩)
    ·exact .inl h
    ·exact .inr ⟨line,u,Nat.le_refl _,by omega,h1,h2,h3,h4⟩
    ·exact .inr ⟨ln,u,by omega,h2⟩
   ·rintro (h | ⟨ln,u,h1,h2,h3,h4,h5,h6⟩)
    ·exact .inl (.inl h)
    ·by_cases e:ln=line
     ·subst e; exact .inl (.inr ⟨u,h3,h4,h5,h6⟩)
     ·exact .inr ⟨ln,u,by omega,h2,h3,h4,h5,h6⟩
theorem implNarrowHidden_ok {k:Nat} (hk:2000010 ≤ k) {H:Hp} {ms:Sl} {l:List Int} {n:Int} (hb:-1 ≤ n∧n ≤ 5) (hm:Reads .i64 H ms l) (hnn:ms.nil=false) (hl:l.length ≤ 1000) (hr:∀ m ∈ l,-2 ≤ m∧m ≤ 63) :
  ∃ t H',callF PP orc k impl_NarrowHidden.id [.sl 1 ms,.int .i64 n] H=some (.sl 1 t,H')∧H <+: H'∧NilOr H H' t (hiddenV n l):=by
 obtain ⟨k,rfl⟩:=Zs k (by omega)
 rw [impl_NarrowHidden.call]
 have h1:=implMasksValid_ok (show 2000000 ≤ k by omega) hb hm hl hr
 have hml:=hm.len
 unfold hiddenV
 cases hv:masksOk n l with
 | false=>
  rw [hv] at h1
  rw [iN (by simp)]
  exact ⟨Sl.none,H,by simp only [impl_NarrowHidden.f,dt,df,bt,bf,nt,nf,Za,Zy,Zx,Zt,Zf,Zn,Zz,Zi,Zo,wr,AV.toB,AV.toI,AV.toS,if_true,h1],(List.prefix_refl _),.inl ⟨rfl,rfl⟩⟩
 | true=>
  rw [hv] at h1
  rw [ip rfl]
  obtain ⟨l4,l16,lN,hN,n2,n4⟩:=masks_len hv
  have hM:=masks_M hv
  have h2:=Clone_own (show 1 ≤ k by omega) hm hnn hl
  have hnew:=own_new 1 H (l.map (.int .i64)) l.length (by simp)
  obtain ⟨H',a',b1,b2,b3,b4⟩:=iHid_l0 (show 2000000 ≤ k by omega) hv hm (2 * n).toNat 0 k (H ++ [some (Blk.mk false (l.map (.int .i64)))]) l _ (by omega) (by omega) (List.prefix_append _ _) hnew (Sub.refl hM)
  have e:a'=subAll l (PH n l):=(b4.congr fun x w hx=>(show _ ↔ PH n l x w from ⟨by rintro (h | ⟨ln,u,_,h⟩); exact h.elim; exact ⟨ln,u,h⟩,fun ⟨ln,u,h⟩=>.inr ⟨ln,u,by omega,h⟩⟩)).eq hM
  subst e
  refine ⟨_,H',?_,b2,.inr b3⟩
  simp only [Int.natCast_zero] at b1
  simp (disch:=omega) only [impl_NarrowHidden.f,dt,df,Zy,Zf,AV.toB,AV.toS,if_true,Zo,h1,h2,wr (n:=2 * n),b1]
theorem line_len {n:Int} {l:List Int} (hv:masksOk n l=true) {line:Nat} (h:(line:Int) < 2 * n):(lineCells n line).length=n.toNat:=by
 obtain ⟨hn,_⟩:=masksOk_iff.1 hv
 unfold lineCells
 rw [if_pos ⟨hn,by omega,h⟩]
 simp
theorem Pairs_l9 (rec:Rec) (k:Nat) (L0:Sl→Int→Sl→Int→Hp→An) (L1:Sl→Int→Sl→Int→Sl→Int→Hp→An) (L3:Sl→Int→Sl→Int→Sl→Int→Int→Hp→An) {H0:Hp} {ms t cs:Sl} {l:List Int} {n m:Int} {line i jj:Nat} (hmk:masksOk n l=true) (hline:(line:Int) < 2 * n) (hcb:cs.blk ≠ t.blk) (hm:M m) (hjj:jj < 1000000) :
  ∀ (j q fuel:Nat) (H:Hp) (a:List Int) (P:Nat→Nat→Prop),(q:Int) + j=n→j < fuel→H0 <+: H→Reads .i64 H cs (lineCells n line)→Own 1 H0 H t (a.map (.int .i64))→Sub l a P →
   ∃ H' a',spec_NarrowPairs.l12 rec k L0 L1 L3 fuel ms n t line cs i jj m q H=L3 ms n t line cs i ((jj:Int) + 1) H'∧H0 <+: H'∧Own 1 H0 H' t (a'.map (.int .i64))∧Adv t.blk H H'∧Sub l a' (fun x w=>P x w ∨ ∃ u:Nat,q ≤ u∧(u:Int) < n∧u ≠ i∧u ≠ jj∧x=lc n line u∧has m w=true):=by
 obtain ⟨l4,l16,lN,hN,n2,n4⟩:=masks_len hmk
 have hll:=line_len hmk hline
 intro j
 induction j with
 | zero=>
  intro q fuel H a P hq hf hp hc ho hs
  obtain ⟨fuel,rfl⟩:=Zs fuel (by omega)
  refine ⟨H,a,?_,hp,ho,Adv.refl _ _,hs.congr fun x w hx=>⟨.inl,by rintro (h | ⟨u,h1,h2,_⟩); exact h; omega⟩⟩
  simp (disch:=omega) only [spec_NarrowPairs.l12,spec_NarrowPairs.j10,dt,df,bt,bf,nt,nf,Za,Zy,Zx,Zt,Zf,Zn,Zz,Zi,Zo,wr,AV.toB,AV.toI,AV.toS,if_true]
 | succ j ih=>
  intro q fuel H a P hq hf hp hc ho hs
  obtain ⟨fuel,rfl⟩:=Zs fuel (by omega)
  have hal:=hs.len
  have htl:t.len=a.length:=by have:=ho.len; simpa using this
  have hcl:=hc.len
  have hq2:q < (lineCells n line).length:=by omega
  obtain ⟨c0,c1,c2⟩:=line_in hmk (mem_getD hq2)
  by_cases c:q ≠ i∧q ≠ jj
  ·obtain ⟨H1,d1,d2,d3,d4⟩:=own_set1 ho hp ((lineCells n line).getD q 0).toNat (by omega) (mSub (a.getD ((lineCells n line).getD q 0).toNat 0) m)
   obtain ⟨H',a',e1,e2,e3,e4,e5⟩:=ih (q + 1) fuel H1 _ _ (by omega) (by omega) d2 (d4.reads hcb hc) d3 (hs.step _ c1 hm)
   push_cast at e1
   refine ⟨H',a',?_,e2,e3,d4.trans e4,e5.congr fun x w hx=>?_⟩
   ·simp (disch:=omega) only [spec_NarrowPairs.l12,spec_NarrowPairs.j13,spec_NarrowPairs.j14,spec_NarrowPairs.j15,spec_NarrowPairs.j16,spec_NarrowPairs.j17,dt,nt,Za,Zt,Zn,Zo,rdn hc,rdn (own_reads ho),m_sub (hs.ms.at _) hm,d1,wr (n:=(q:Int) + 1),e1]
   ·constructor
    ·rintro ((h | ⟨h1,h2⟩) | ⟨u,h1,h2⟩)
     ·exact .inl h
     ·exact .inr ⟨q,Nat.le_refl _,by omega,c.1,c.2,h1,h2⟩
     ·exact .inr ⟨u,by omega,h2⟩
    ·rintro (h | ⟨u,h1,h2,h3,h4,h5,h6⟩)
     ·exact .inl (.inl h)
     ·by_cases e:u=q
      ·subst e; exact .inl (.inr ⟨h5,h6⟩)
      ·exact .inr ⟨u,by omega,h2,h3,h4,h5,h6⟩
  ·obtain ⟨H',a',e1,e2,e3,e4,e5⟩:=ih (q + 1) fuel H a P (by omega) (by omega) hp hc ho hs
   push_cast at e1
   refine ⟨H',a',?_,e2,e3,e4,e5.congr fun x w hx=>?_⟩
   ·by_cases c1':q=i
    ·simp (disch:=omega) only [spec_NarrowPairs.l12,spec_NarrowPairs.j13,spec_NarrowPairs.j14,spec_NarrowPairs.j15,spec_NarrowPairs.j16,spec_NarrowPairs.j17,dt,nf,Zt,Zf,wr (n:=(q:Int) + 1),e1]
    ·simp (disch:=omega) only [spec_NarrowPairs.l12,spec_NarrowPairs.j13,spec_NarrowPairs.j14,spec_NarrowPairs.j15,spec_NarrowPairs.j16,spec_NarrowPairs.j17,dt,nt,nf,Zt,Zf,wr (n:=(q:Int) + 1),e1]
   ·constructor
    ·rintro (h | ⟨u,h1,h2⟩)
     ·exact .inl h
     ·exact .inr ⟨u,by omega,h2⟩
    ·rintro (h | ⟨u,h1,h2,h3,h4,h5,h6⟩)
     ·exact .inl h
     ·refine .inr ⟨u,?_,h2,h3,h4,h5,h6⟩
      by_cases e:u=q
      ·subst e; exact absurd ⟨h3,h4⟩ c
      ·omega
def PQ2 (n:Int) (l:List Int) (line i j x w:Nat):Prop:=l.getD (lc n line i) 0=l.getD (lc n line j) 0∧two (l.getD (lc n line i) 0)=true∧∃ u:Nat,(u:Int) < n∧u ≠ i∧u ≠ j∧x=lc n line u∧has (l.getD (lc n line i) 0) w=true
theorem Pairs_l3 {k:Nat} (hk:2000000 ≤ k) (L0:Sl→Int→Sl→Int→Hp→An) (L1:Sl→Int→Sl→Int→Sl→Int→Hp→An) {H0:Hp} {ms t cs:Sl} {l:List Int} {n:Int} {line i:Nat} (hmk:masksOk n l=true) (hm:Reads .i64 H0 ms l) (hline:(line:Int) < 2 * n) (hi:(i:Int) < n) :
  ∀ (j q fuel:Nat) (H:Hp) (a:List Int) (P:Nat→Nat→Prop),q + j=i→j < fuel→H0 <+: H→Reads .i64 H cs (lineCells n line)→cs.blk ≠ t.blk→Own 1 H0 H t (a.map (.int .i64))→Sub l a P →
   ∃ H' a',spec_NarrowPairs.l3 (callF Ab.PP orc k) k L0 L1 fuel ms n t line cs i q H=L1 ms n t line cs ((i:Int) + 1) H'∧H0 <+: H'∧Own 1 H0 H' t (a'.map (.int .i64))∧Adv t.blk H H'∧Sub l a' (fun x w=>P x w ∨ ∃ u:Nat,q ≤ u∧u < i∧PQ2 n l line i u x w):=by
 obtain ⟨l4,l16,lN,hN,n2,n4⟩:=masks_len hmk
 have hll:=line_len hmk hline
 have hM:=masks_M hmk
 have hml:=hm.len
 intro j
 induction j with
 | zero=>
  intro q fuel H a P hq hf hp hc hcb ho hs
  obtain ⟨fuel,rfl⟩:=Zs fuel (by omega)
  refine ⟨H,a,?_,hp,ho,Adv.refl _ _,hs.congr fun x w hx=>⟨.inl,by rintro (h | ⟨u,h1,h2,_⟩); exact h; omega⟩⟩
  simp (disch:=omega) only [spec_NarrowPairs.l3,spec_NarrowPairs.j6,dt,df,bt,bf,nt,nf,Za,Zy,Zx,Zt,Zf,Zn,Zz,Zi,Zo,wr,AV.toB,AV.toI,AV.toS,if_true]
 | succ j ih=>
  intro q fuel H a P hq hf hp hc hcb ho hs
  obtain ⟨fuel,rfl⟩:=Zs fuel (by omega)
  have hcl:=hc.len
  obtain ⟨c0,c1,c2⟩:=line_in hmk (mem_getD (show q < (lineCells n line).length by omega))
  obtain ⟨f0,f1,f2⟩:=line_in hmk (mem_getD (show i < (lineCells n line).length by omega))
  have hrd:=pf_reads hp hm
  have e0:∀ z,l.getD ((lineCells n line).getD z 0).toNat 0=l.getD (lc n line z) 0:=fun z=>rfl
  by_cases ce:l.getD (lc n line i) 0=l.getD (lc n line q) 0
  ·obtain ⟨u,H1,a1,a2,a3⟩:=MaskValues_ok hk (l.getD (lc n line i) 0) H
   have hul:=(own_reads a3).len
   have hc1:=pf_reads a2 hc
   by_cases c3:(maskVals (l.getD (lc n line i) 0)).length=2
   ·obtain ⟨H2,a',b1,b2,b3,b4,b5⟩:=Pairs_l9 (callF Ab.PP orc k) k L0 L1 (spec_NarrowPairs.l3 (callF Ab.PP orc k) k L0 L1 fuel) (ms:=ms) (i:=i) (jj:=q) hmk hline hcb (hM.at (lc n line i)) (by omega) n.toNat 0 k H1 a P (by omega) (by omega) (hp.trans a2) hc1 (own_pf ho a2) hs
    obtain ⟨H',a'',d1,d2,d3,d4,d5⟩:=ih (q + 1) fuel H2 a' _ (by omega) (by omega) b2 (b4.reads hcb hc1) hcb b3 b5
    push_cast at d1
    refine ⟨H',a'',?_,d2,d3,((pf_adv a2).trans b4).trans d4,d5.congr fun x w hx=>?_⟩
    ·simp only [Int.natCast_zero] at b1
     simp (disch:=omega) only [spec_NarrowPairs.l3,spec_NarrowPairs.j5,spec_NarrowPairs.j7,spec_NarrowPairs.j8,spec_NarrowPairs.j9,spec_NarrowPairs.j10,spec_NarrowPairs.j11,dt,df,bt,bf,nt,nf,Za,Zy,Zx,Zt,Zf,Zn,Zz,Zi,Zo,wr,AV.toB,AV.toI,AV.toS,if_true,rdn hc,rdn hrd,e0,a1,hul,b1,d1]
    ·have ht:two (l.getD (lc n line i) 0)=true:=by unfold two; rw [c3]; rfl
     constructor
     ·rintro ((h | ⟨u,h1,h2,h3,h4,h5,h6⟩) | ⟨u,h1,h2⟩)
      ·exact .inl h
      ·exact .inr ⟨q,Nat.le_refl _,by omega,ce,ht,u,h2,h3,h4,h5,h6⟩
      ·exact .inr ⟨u,by omega,h2⟩
     ·rintro (h | ⟨u,h1,h2,h3,h4,z,h5,h6,h7,h8,h9⟩)
      ·exact .inl (.inl h)
      ·by_cases e:u=q
       ·subst e; exact .inl (.inr ⟨z,by omega,h5,h6,h7,h8,h9⟩)
       ·exact .inr ⟨u,by omega,h2,h3,h4,z,h5,h6,h7,h8,h9⟩
   ·obtain ⟨H',a'',d1,d2,d3,d4,d5⟩:=ih (q + 1) fuel H1 a P (by omega) (by omega) (hp.trans a2) hc1 hcb (own_pf ho a2) hs
    push_cast at d1
    refine ⟨H',a'',?_,d2,d3,(pf_adv a2).trans d4,d5.congr fun x w hx=>?_⟩
    ·simp (disch:=omega) only [spec_NarrowPairs.l3,spec_NarrowPairs.j5,spec_NarrowPairs.j7,spec_NarrowPairs.j8,spec_NarrowPairs.j9,spec_NarrowPairs.j10,spec_NarrowPairs.j11,dt,df,bt,bf,nt,nf,Za,Zy,Zx,Zt,Zf,Zn,Zz,Zi,Zo,wr,AV.toB,AV.toI,AV.toS,if_true,rdn hc,rdn hrd,e0,a1,hul,d1]
    ·have ht:¬ two (l.getD (lc n line i) 0)=true:=by unfold two; rw [beq_iff_eq]; exact c3
     constructor
     ·rintro (h | ⟨u,h1,h2⟩)
      ·exact .inl h
      ·exact .inr ⟨u,by omega,h2⟩
     ·rintro (h | ⟨u,h1,h2,h3,h4,h5⟩)
      ·exact .inl h
      ·exact absurd h4 ht
  ·obtain ⟨H',a'',d1,d2,d3,d4,d5⟩:=ih (q + 1) fuel H a P (by omega) (by omega) hp hc hcb ho hs
   push_cast at d1
   refine ⟨H',a'',?_,d2,d3,d4,d5.congr fun x w hx=>?_⟩
   ·simp (disch:=omega) only [spec_NarrowPairs.l3,spec_NarrowPairs.j5,spec_NarrowPairs.j7,spec_NarrowPairs.j8,spec_NarrowPairs.j9,spec_NarrowPairs.j10,spec_NarrowPairs.j11,dt,Za,Zt,Zn,Zo,rdn hc,rdn hrd,e0,nt ce,wr (n:=(q:Int) + 1),d1]
   ·constructor
    ·rintro (h | ⟨u,h1,h2⟩)
     ·exact .inl h
     ·exact .inr ⟨u,by omega,h2⟩
    ·rintro (h | ⟨u,h1,h2,h3,h4⟩)
     ·exact .inl h
     ·refine .inr ⟨u,?_,h2,h3,h4⟩
      by_cases e:u=q
      ·subst e; exact absurd h3 ce
      ·omega
theorem Pairs_l1 {k:Nat} (hk:2000000 ≤ k) (L0:Sl→Int→Sl→Int→Hp→An) {H0:Hp} {ms t cs:Sl} {l:List Int} {n:Int} {line:Nat} (hmk:masksOk n l=true) (hm:Reads .i64 H0 ms l) (hline:(line:Int) < 2 * n) (hcb:cs.blk ≠ t.blk) :
  ∀ (j q fuel:Nat) (H:Hp) (a:List Int) (P:Nat→Nat→Prop),(q:Int) + j=n→j < fuel→H0 <+: H→Reads .i64 H cs (lineCells n line)→Own 1 H0 H t (a.map (.int .i64))→Sub l a P →
   ∃ H' a',spec_NarrowPairs.l1 (callF Ab.PP orc k) k L0 fuel ms n t line cs q H=L0 ms n t ((line:Int) + 1) H'∧H0 <+: H'∧Own 1 H0 H' t (a'.map (.int .i64))∧Sub l a' (fun x w=>P x w ∨ ∃ i u:Nat,q ≤ i∧(i:Int) < n∧u < i∧PQ2 n l line i u x w):=by
 obtain ⟨l4,l16,lN,hN,n2,n4⟩:=masks_len hmk
 intro j
 induction j with
 | zero=>
  intro q fuel H a P hq hf hp hc ho hs
  obtain ⟨fuel,rfl⟩:=Zs fuel (by omega)
  refine ⟨H,a,?_,hp,ho,hs.congr fun x w hx=>⟨.inl,by rintro (h | ⟨i,u,h1,h2,_⟩); exact h; omega⟩⟩
  simp (disch:=omega) only [spec_NarrowPairs.l1,spec_NarrowPairs.j4,dt,df,bt,bf,nt,nf,Za,Zy,Zx,Zt,Zf,Zn,Zz,Zi,Zo,wr,AV.toB,AV.toI,AV.toS,if_true]
 | succ j ih=>
  intro q fuel H a P hq hf hp hc ho hs
  obtain ⟨fuel,rfl⟩:=Zs fuel (by omega)
  obtain ⟨H1,a',b1,b2,b3,b4,b5⟩:=Pairs_l3 hk L0 (spec_NarrowPairs.l1 (callF Ab.PP orc k) k L0 fuel) (cs:=cs) (i:=q) hmk hm hline (by omega) q 0 k H a P (by omega) (by omega) hp hc hcb ho hs
  obtain ⟨H',a'',d1,d2,d3,d4⟩:=ih (q + 1) fuel H1 a' _ (by omega) (by omega) b2 (b4.reads hcb hc) b3 b5
  push_cast at d1
  refine ⟨H',a'',?_,d2,d3,d4.congr fun x w hx=>?_⟩
  ·simp only [Int.natCast_zero] at b1
   simp (disch:=omega) only [spec_NarrowPairs.l1,dt,df,bt,bf,nt,nf,Za,Zy,Zx,Zt,Zf,Zn,Zz,Zi,Zo,wr,AV.toB,AV.toI,AV.toS,if_true,b1,d1]
  ·constructor
   ·rintro ((h | ⟨u,h1,h2,h3⟩) | ⟨i,u,h1,h2⟩)
    ·exact .inl h
    ·exact .inr ⟨q,u,Nat.le_refl _,by omega,h2,h3⟩
    ·exact .inr ⟨i,u,by omega,h2⟩
   ·rintro (h | ⟨i,u,h1,h2,h3,h4⟩)
    ·exact .inl (.inl h)
    ·by_cases e:i=q
     ·subst e; exact .inl (.inr ⟨u,by omega,h3,h4⟩)
     ·exact .inr ⟨i,u,by omega,h2,h3,h4⟩
theorem Pairs_l0 {k:Nat} (hk:2000000 ≤ k) {H0:Hp} {ms t:Sl} {l:List Int} {n:Int} (hmk:masksOk n l=true) (hm:Reads .i64 H0 ms l) :
  ∀ (j line fuel:Nat) (H:Hp) (a:List Int) (P:Nat→Nat→Prop),(line:Int) + j=2 * n→j < fuel→H0 <+: H→Own 1 H0 H t (a.map (.int .i64))→Sub l a P →
   ∃ H' a',spec_NarrowPairs.l0 (callF Ab.PP orc k) k fuel ms n t line H=some (.sl 1 t,H')∧H0 <+: H'∧Own 1 H0 H' t (a'.map (.int .i64))∧Sub l a' (fun x w=>P x w ∨ ∃ ln i u:Nat,line ≤ ln∧(ln:Int) < 2 * n∧(i:Int) < n∧u < i∧PQ2 n l ln i u x w):=by
 obtain ⟨l4,l16,lN,hN,n2,n4⟩:=masks_len hmk
 intro j
 induction j with
 | zero=>
  intro line fuel H a P hl hf hp ho hs
  obtain ⟨fuel,rfl⟩:=Zs fuel (by omega)
  refine ⟨H,a,?_,hp,ho,hs.congr fun x w hx=>⟨.inl,by rintro (h | ⟨ln,i,u,h1,h2,_⟩); exact h; omega⟩⟩
  simp (disch:=omega) only [spec_NarrowPairs.l0,spec_NarrowPairs.j2,dt,df,bt,bf,nt,nf,Za,Zy,Zx,Zt,Zf,Zn,Zz,Zi,Zo,wr,AV.toB,AV.toI,AV.toS,if_true]
 | succ j ih=>
  intro line fuel H a P hl hf hp ho hs
  obtain ⟨fuel,rfl⟩:=Zs fuel (by omega)
  obtain ⟨cs,H1,a1,a2,a3⟩:=specLineCells_own hk n (line:Int) H
  have hcb:cs.blk ≠ t.blk:=by have:=a3.blk; have:=own_lt' ho; omega
  obtain ⟨H2,a',b1,b2,b3,b4⟩:=Pairs_l1 hk (spec_NarrowPairs.l0 (callF Ab.PP orc k) k fuel) hmk hm (by omega) hcb n.toNat 0 k H1 a P (by omega) (by omega) (hp.trans a2) (own_reads a3) (own_pf ho a2) hs
  obtain ⟨H',a'',d1,d2,d3,d4⟩:=ih (line + 1) fuel H2 a' _ (by omega) (by omega) b2 b3 b4
  push_cast at d1
  refine ⟨H',a'',?_,d2,d3,d4.congr fun x w hx=>?_⟩
  ·simp only [Int.natCast_zero] at b1
   simp (disch:=omega) only [spec_NarrowPairs.l0,dt,df,bt,bf,nt,nf,Za,Zy,Zx,Zt,Zf,Zn,Zz,Zi,Zo,wr,AV.toB,AV.toI,AV.toS,if_true,a1,b1,d1]
  ·constructor
   ·rintro ((h | ⟨i,u,h1,h2,h3,h4⟩) | ⟨ln,i,u,h1,h2⟩)
    ·exact .inl h
    ·exact .inr ⟨line,i,u,Nat.le_refl _,by omega,h2,h3,h4⟩
    ·exact .inr ⟨ln,i,u,by omega,h2⟩
   ·rintro (h | ⟨ln,i,u,h1,h2,h3,h4,h5⟩)
    ·exact .inl (.inl h)
    ·by_cases e:ln=line
     ·subst e; exact .inl (.inr ⟨i,u,by omega,h3,h4,h5⟩)
     ·exact .inr ⟨ln,i,u,by omega,h2,h3,h4,h5⟩
theorem PQ_iff {n:Int} {l:List Int} {x w:Nat}:PQ n l x w ↔ ∃ ln i u:Nat,(ln:Int) < 2 * n∧(i:Int) < n∧u < i∧PQ2 n l ln i u x w:=by
 constructor
 ·rintro ⟨ln,i,j,k,h1,h2,h3,h4,h5,h6,h7,h8,h9,h10⟩
  exact ⟨ln,i,j,h1,h3,h2,h7,h8,k,h4,h5,h6,h9,h10⟩
 ·rintro ⟨ln,i,j,h1,h3,h2,h7,h8,k,h4,h5,h6,h9,h10⟩
  exact ⟨ln,i,j,k,h1,h2,h3,h4,h5,h6,h7,h8,h9,h10⟩
theorem specNarrowPairs_ok {k:Nat} (hk:2000010 ≤ k) {H:Hp} {ms:Sl} {l:List Int} {n:Int} (hb:-1 ≤ n∧n ≤ 5) (hm:Reads .i64 H ms l) (hl:l.length ≤ 1000) :
  ∃ t H',callF Ab.PP orc k spec_NarrowPairs.id [.sl 1 ms,.int .i64 n] H=some (.sl 1 t,H')∧H <+: H'∧Own 1 H H' t ((pairsV n l).map (.int .i64)):=by
 obtain ⟨k,rfl⟩:=Zs k (by omega)
 rw [spec_NarrowPairs.call]
 have h1:=specMasksValid_any (show 2000000 ≤ k by omega) hb hm hl
 unfold pairsV
 cases hv:masksOk n l with
 | false=>
  rw [hv] at h1
  rw [iN (by simp)]
  exact ⟨Sl.mk false H.length 0 0,H ++ [some (Blk.mk false [])],by simp only [spec_NarrowPairs.f,dt,df,bt,bf,nt,nf,Za,Zy,Zx,Zt,Zf,Zn,Zz,Zi,Zo,wr,AV.toB,AV.toI,AV.toS,if_true,h1],(List.prefix_append _ _),own_new 1 H [] 0 rfl⟩
 | true=>
  rw [hv] at h1
  rw [ip rfl]
  obtain ⟨l4,l16,lN,hN,n2,n4⟩:=masks_len hv
  have hM:=masks_M hv
  have h2:=l6Copy_ok (show 1 ≤ k by omega) hm hl
  have hnew:=own_new 1 H (l.map (.int .i64)) l.length (by simp)
  obtain ⟨H',a',b1,b2,b3,b4⟩:=Pairs_l0 (show 2000000 ≤ k by omega) hv hm (2 * n).toNat 0 k (H ++ [some (Blk.mk false (l.map (.int .i64)))]) l _ (by omega) (by omega) (List.prefix_append _ _) hnew (Sub.refl hM)
  have e:a'=subAll l (PQ n l):=(b4.congr fun x w hx=>(show _ ↔ PQ n l x w from by
   rw [PQ_iff]
   constructor
   ·rintro (h | ⟨ln,i,u,_,h⟩)
    ·exact h.elim
    ·exact ⟨ln,i,u,h⟩
   ·rintro ⟨ln,i,u,h⟩
    exact .inr ⟨ln,i,u,by omega,h⟩)).eq hM
  subst e
  refine ⟨_,H',?_,b2,b3⟩
  simp only [Int.natCast_zero] at b1
  simp only [spec_NarrowPairs.f,dt,df,bt,bf,nt,nf,Za,Zy,Zx,Zt,Zf,Zn,Zz,Zi,Zo,wr,AV.toB,AV.toI,AV.toS,if_true,h1,h2,b1]
theorem AllIn_pt:∀ (ms ws:List Int),AllIn ms ws ↔ ws.length=ms.length∧∀ i,i < ms.length→ws.getD i 0 ∈ maskVals (ms.getD i 0)
 | [],[]=>by simp [AllIn]
 | [],w :: ws=>by simp [AllIn]
 | m :: ms,[]=>by simp [AllIn]
 | m :: ms,w :: ws=>by
  show (w ∈ maskVals m∧AllIn ms ws) ↔ _
  rw [AllIn_pt ms ws]
  constructor
  ·rintro ⟨h1,h2,h3⟩
   refine ⟨by simpa using h2,fun i hi=>?_⟩
   cases i with
   | zero=>simpa using h1
   | succ i=>simpa using h3 i (by simpa using hi)
  ·rintro ⟨h1,h2⟩
   refine ⟨by simpa using h2 0 (by simp),by simpa using h1,fun i hi=>?_⟩
   simpa using h2 (i + 1) (by simpa using hi)
theorem own_len (masks cells:List Int):(ownOf masks cells).length=cells.length:=by simp [ownOf]
theorem own_at {masks cells:List Int} {i:Nat} (hi:i < cells.length):(ownOf masks cells).getD i 0=masks.getD (cells.getD i 0).toNat 0:=by
 unfold ownOf
 rw [List.getD_eq_getElem?_getD,List.getElem?_map,List.getElem?_eq_getElem hi,List.getD_eq_getElem?_getD (l:=cells),List.getElem?_eq_getElem hi]; rfl
theorem map_at {cells:List Int} {f:Int→Int} {i:Nat} (hi:i < cells.length):(cells.map f).getD i 0=f (cells.getD i 0):=by
 rw [List.getD_eq_getElem?_getD,List.getElem?_map,List.getElem?_eq_getElem hi,List.getD_eq_getElem?_getD (l:=cells),List.getElem?_eq_getElem hi]; rfl
theorem cells_ne {n:Int} {r:V} (h:ruleOkV n r=true) {a b:Nat} (ha:a < r.2.1.length) (hb:b < r.2.1.length) (hab:a ≠ b):(r.2.1.getD a 0).toNat ≠ (r.2.1.getD b 0).toNat:=by
 obtain ⟨c1,_⟩:=ruleOk_cells h
 unfold ruleOkV ruleOk at h
 rw [Bool.and_eq_true] at h
 have hd:∀ a b,a < b→b < r.2.1.length→r.2.1.getD a 0 ≠ r.2.1.getD b 0:=fun a b h1 h2 he=>by
  have:=(cellsOk_at _ _ h.1 b (by omega) (by omega)).2
  rw [← he,← Bool.not_eq_true,List.contains_iff_mem] at this
  apply this
  have:(r.2.1.take b).getD a 0=r.2.1.getD a 0:=by
   rw [List.getD_eq_getElem?_getD,List.getElem?_take,if_pos h1,← List.getD_eq_getElem?_getD]
  rw [← this]
  exact mem_getD (by rw [List.length_take]; omega)
 have p1:=c1 _ (mem_getD ha)
 have p2:=c1 _ (mem_getD hb)
 rcases Nat.lt_or_gt_of_ne hab with e | e
 ·have:=hd a b e hb; omega
 ·have:=hd b a e ha; omega
theorem setAll_at {cells found:List Int}:∀ (j i:Nat) (l:List Int),i + j ≤ cells.length→(∀ a b,a < cells.length→b < cells.length→a ≠ b→(cells.getD a 0).toNat ≠ (cells.getD b 0).toNat)→(∀ a,a < cells.length→(cells.getD a 0).toNat < l.length) →
  (setAll cells l found i j).length=l.length∧(∀ u,i ≤ u→u < i + j→(setAll cells l found i j).getD (cells.getD u 0).toNat 0=found.getD u 0)∧(∀ x,(∀ u,i ≤ u→u < i + j→(cells.getD u 0).toNat ≠ x)→(setAll cells l found i j).getD x 0=l.getD x 0)
 | 0,i,l,_,_,_=>⟨rfl,fun u h1 h2=>by omega,fun x _=>rfl⟩
 | j + 1,i,l,hi,hd,hl=>by
  obtain ⟨a,b,c⟩:=setAll_at (found:=found) j (i + 1) (l.set (cells.getD i 0).toNat (found.getD i 0)) (by omega) hd (fun x hx=>by rw [List.length_set]; exact hl x hx)
  rw [setAll]
  refine ⟨by rw [a,List.length_set],fun u h1 h2=>?_,fun x hx=>?_⟩
  ·by_cases e:u=i
   ·subst e
    rw [c _ (fun w h3 h4=>hd w u (by omega) (by omega) (by omega)),getD_set,if_pos ⟨rfl,hl u (by omega)⟩]
   ·exact b u (by omega) (by omega)
  ·rw [c x (fun u h1 h2=>hx u (by omega) (by omega)),getD_set,if_neg (fun h=>hx i (Nat.le_refl _) (by omega) h.1)]
theorem ruleMasks_S {n:Int} {r:V} {l:List Int} (hr:ruleOkV n r=true) (hl:masksOk n l=true):ruleMasksS n r.1 r.2.2 r.2.1 l=ruleMasksV r.1 r.2.2 (ownOf l r.2.1):=by
 unfold ruleMasksS
 rw [if_pos ⟨by unfold ruleOkV at hr; rw [hr,decide_eq_true (masksOk_iff.1 hl).1]; rfl,hl⟩]
def RS (l:List Int) (r:V) (x v:Nat):Prop:=∃ u,u < r.2.1.length∧(r.2.1.getD u 0).toNat=x∧¬ ∃ ws,AllIn (ownOf l r.2.1) ws∧holdsV r.1 r.2.2 ws=true∧ws.getD u 0=(v:Int)
theorem rule_cells {n:Int} {r:V} {l:List Int} (hr:ruleOkV n r=true) (hl:masksOk n l=true) {u:Nat} (hu:u < r.2.1.length):(r.2.1.getD u 0).toNat < l.length:=by
 obtain ⟨c1,_⟩:=ruleOk_cells hr
 have:=c1 _ (mem_getD hu)
 have:=(masksOk_iff.1 hl).2.2
 omega
theorem ruleStep_sub {n:Int} {r:V} {l:List Int} (hr:ruleOkV n r=true) (hl:masksOk n l=true):Sub l (ruleStep n l r) (RS l r):=by
 obtain ⟨c1,c2,c3,c4⟩:=ruleOk_cells hr
 have hol:=own_len l r.2.1
 have hrm:=ruleMasks_ok (kind:=r.1) (value:=r.2.2) (own:=ownOf l r.2.1) (by omega)
 unfold ruleStep
 rw [ruleMasks_S hr hl]
 obtain ⟨s1,s2,s3⟩:=setAll_at (found:=ruleMasksV r.1 r.2.2 (ownOf l r.2.1)) r.2.1.length 0 l (by omega) (fun a b ha hb=>cells_ne hr ha hb) (fun a ha=>rule_cells hr hl ha)
 have hM:=masks_M hl
 have at1:∀ u,u < r.2.1.length→∀ v:Nat,has ((setAll r.2.1 l (ruleMasksV r.1 r.2.2 (ownOf l r.2.1)) 0 r.2.1.length).getD (r.2.1.getD u 0).toNat 0) v=true ↔ ∃ ws,AllIn (ownOf l r.2.1) ws∧holdsV r.1 r.2.2 ws=true∧ws.getD u 0=(v:Int):=fun u hu v=>by
  rw [s2 u (by omega) (by omega)]
  exact ruleMasks_has (by omega) u v (by omega)
 refine ⟨s1,fun m hm=>?_,fun x v hx=>?_⟩
 ·obtain ⟨i,hi,rfl⟩:=List.getElem_of_mem hm
  have e:(setAll r.2.1 l (ruleMasksV r.1 r.2.2 (ownOf l r.2.1)) 0 r.2.1.length).getD i 0=(setAll r.2.1 l (ruleMasksV r.1 r.2.2 (ownOf l r.2.1)) 0 r.2.1.length)[i]:=by simp [List.getD_eq_getElem?_getD,hi]
  rw [← e]
  by_cases c:∃ u,u < r.2.1.length∧(r.2.1.getD u 0).toNat=i
  ·obtain ⟨u,hu,rfl⟩:=c
   rw [s2 u (by omega) (by omega)]
   exact hrm.1.at u
  ·rw [s3 i (fun u _ h2 h3=>c ⟨u,by omega,h3⟩)]
   exact hM.at i
 ·by_cases c:∃ u,u < r.2.1.length∧(r.2.1.getD u 0).toNat=x
  ·obtain ⟨u,hu,rfl⟩:=c
   rw [at1 u hu v]
   constructor
   ·rintro ⟨ws,h1,h2,h3⟩
    have:=((AllIn_pt _ _).1 h1).2 u (by omega)
    rw [own_at hu,h3] at this
    refine ⟨(mv_has (masks_at hl hx) v).2 this,?_⟩
    rintro ⟨w,hw,he,hn⟩
    have:w=u:=by
     apply Classical.byContradiction
     intro hne
     exact cells_ne hr hw hu hne he
    subst this
    exact hn ⟨ws,h1,h2,h3⟩
   ·rintro ⟨h1,h2⟩
    apply Classical.byContradiction
    intro h3
    exact h2 ⟨u,hu,rfl,h3⟩
  ·rw [s3 x (fun u _ h2 h3=>c ⟨u,by omega,h3⟩)]
   constructor
   ·intro h; exact ⟨h,by rintro ⟨u,hu,he,_⟩; exact c ⟨u,hu,he⟩⟩
   ·intro h; exact h.1
theorem rule_full {n:Int} {g:List Int} (hg:gridOk g n=true) (hf:full g) {r:V} (hr:ruleOkV n r=true) (h:canHoldV n g r=true):holdsV r.1 r.2.2 (r.2.1.map (gv g))=true:=by
 obtain ⟨c1,c2,c3,c4⟩:=ruleOk_cells hr
 have hl:=((gridOk_iff g n).1 hg).2.1
 rw [canHold_iff c3 c2] at h
 obtain ⟨ws,a,b⟩:=h
 rw [AllIn_pt,own_len] at a
 have:ws=r.2.1.map (gv g):=by
  refine ext_getD (by rw [a.1,List.length_map]) fun i hi=>?_
  have hi2:i < r.2.1.length:=by omega
  have h1:=a.2 i hi2
  have hc:=c1 _ (mem_getD hi2)
  rw [own_at hi2,open_vals hg (show (r.2.1.getD i 0).toNat < g.length by omega)] at h1
  rw [map_at hi2]
  exact h1.2 (hf _ (by omega))
 rw [← this]; exact b
theorem rule_sound {n:Int} {r:V} {l g:List Int} (hr:ruleOkV n r=true) (hl:masksOk n l=true) (hg:gridOk g n=true) (hin:InM l g) (hh:holdsV r.1 r.2.2 (r.2.1.map (gv g))=true) {x:Nat} (hx:x < l.length):¬ RS l r x (g.getD x 0).toNat:=by
 rintro ⟨u,hu,rfl,hn⟩
 apply hn
 have hlen:=square_len hl hg
 refine ⟨r.2.1.map (gv g),?_,hh,?_⟩
 ·rw [AllIn_pt,own_len]
  refine ⟨by simp,fun i hi=>?_⟩
  rw [map_at hi,own_at hi]
  exact hin.mem hl hg (by rw [hlen]; exact rule_cells hr hl hi)
 ·rw [map_at hu]
  have:=((gridOk_iff g n).1 hg).2.2 _ (mem_getD (show (r.2.1.getD u 0).toNat < g.length by omega))
  show g.getD (r.2.1.getD u 0).toNat 0=_
  omega
theorem rules_fold {n:Int}:∀ (vs:List V) (l:List Int),(∀ r ∈ vs,ruleOkV n r=true)→masksOk n l=true→masksOk n (vs.foldl (ruleStep n) l)=true∧SubM (vs.foldl (ruleStep n) l) l
 | [],l,_,hl=>⟨hl,SubM.refl l⟩
 | r :: vs,l,hv,hl=>by
  have h1:=ruleStep_sub (hv r (by simp)) hl
  obtain ⟨a,b⟩:=rules_fold vs (ruleStep n l r) (fun q hq=>hv q (List.mem_cons_of_mem _ hq)) (h1.ok hl)
  exact ⟨a,b.trans h1.subM⟩
theorem rules_keep {n:Int} {g:List Int} (hg:gridOk g n=true):∀ (vs:List V) (l:List Int),(∀ r ∈ vs,ruleOkV n r=true∧holdsV r.1 r.2.2 (r.2.1.map (gv g))=true)→masksOk n l=true→InM l g→InM (vs.foldl (ruleStep n) l) g
 | [],l,_,_,h=>h
 | r :: vs,l,hv,hl,h=>by
  have hr:=hv r (by simp)
  have h1:=ruleStep_sub hr.1 hl
  exact rules_keep hg vs (ruleStep n l r) (fun q hq=>hv q (List.mem_cons_of_mem _ hq)) (h1.ok hl) (h1.keeps (square_len hl hg) h fun x hx=>rule_sound hr.1 hl hg h hr.2 hx)
/-! ### All techniques -/
theorem subAll_good {n:Int} {l:List Int} (hl:masksOk n l=true) (P:Nat→Nat→Prop):masksOk n (subAll l P)=true∧SubM (subAll l P) l:=⟨(subAll_ok (masks_M hl) P).ok hl,(subAll_ok (masks_M hl) P).subM⟩
theorem singlesV_good {n:Int} {l:List Int} (hl:masksOk n l=true):masksOk n (singlesV n l)=true∧SubM (singlesV n l) l:=by
 unfold singlesV; rw [if_pos hl]; exact subAll_good hl _
theorem hiddenV_good {n:Int} {l:List Int} (hl:masksOk n l=true):masksOk n (hiddenV n l)=true∧SubM (hiddenV n l) l:=by
 unfold hiddenV; rw [if_pos hl]; exact subAll_good hl _
theorem pairsV_good {n:Int} {l:List Int} (hl:masksOk n l=true):masksOk n (pairsV n l)=true∧SubM (pairsV n l) l:=by
 unfold pairsV; rw [if_pos hl]; exact subAll_good hl _
theorem puzzleV_rules {n:Int} {given:List Int} {vs:List V} (hp:puzzleV n given vs=true):∀ r ∈ vs,ruleOkV n r=true:=List.all_eq_true.1 (puzzleV_grid hp).2
theorem rulesV_good {n:Int} {given:List Int} {vs:List V} (hp:puzzleV n given vs=true) {l:List Int} (hl:masksOk n l=true):masksOk n (rulesV n given vs l)=true∧SubM (rulesV n given vs l) l:=by
 unfold rulesV; rw [if_pos ⟨hp,hl⟩]; exact rules_fold vs l (puzzleV_rules hp) hl
theorem singlesV_keeps {n:Int} {l g:List Int} (hl:masksOk n l=true) (hg:g ∈ squares n) (h:InM l g):InM (singlesV n l) g:=by
 unfold singlesV; rw [if_pos hl]
 exact (subAll_ok (masks_M hl) _).keeps (square_len hl (squares_pos (masksOk_iff.1 hl).1 hg).2.1) h fun j hj hp=>singles_sound hl hg h hj hp rfl
theorem hiddenV_keeps {n:Int} {l g:List Int} (hl:masksOk n l=true) (hg:g ∈ squares n) (h:InM l g):InM (hiddenV n l) g:=by
 unfold hiddenV; rw [if_pos hl]
 exact (subAll_ok (masks_M hl) _).keeps (square_len hl (squares_pos (masksOk_iff.1 hl).1 hg).2.1) h fun j hj hp=>hidden_sound hl hg h hj hp rfl
theorem pairsV_keeps {n:Int} {l g:List Int} (hl:masksOk n l=true) (hg:g ∈ squares n) (h:InM l g):InM (pairsV n l) g:=by
 unfold pairsV; rw [if_pos hl]
 exact (subAll_ok (masks_M hl) _).keeps (square_len hl (squares_pos (masksOk_iff.1 hl).1 hg).2.1) h fun j hj hp=>pairs_sound hl hg h hj hp rfl
theorem sol_rules {n:Int} {given:List Int} {vs:List V} (hp:puzzleV n given vs=true) {g:List Int} (hg:g ∈ allSols n given vs):∀ r ∈ vs,ruleOkV n r=true∧holdsV r.1 r.2.2 (r.2.1.map (gv g))=true:=fun r hr=>by
 have hok:=puzzleV_rules hp r hr
 rw [mem_allSols hp] at hg
 refine ⟨hok,rule_full hg.1 hg.2.2.1 hok ?_⟩
 have:=hg.2.2.2
 unfold fitsV at this
 simp only [Bool.and_eq_true] at this
 exact List.all_eq_true.1 this.2.1 r hr
theorem rulesV_keeps {n:Int} {given:List Int} {vs:List V} (hp:puzzleV n given vs=true) {l g:List Int} (hl:masksOk n l=true) (hg:g ∈ allSols n given vs) (h:InM l g):InM (rulesV n given vs l) g:=by
 unfold rulesV; rw [if_pos ⟨hp,hl⟩]
 exact rules_keep (squares_pos (masksOk_iff.1 hl).1 (sol_square hp hg)).2.1 vs l (sol_rules hp hg) hl h
theorem narrowV_cases {n:Int} {given:List Int} {vs:List V} (hp:puzzleV n given vs=true) {l:List Int} (hl:masksOk n l=true):narrowV n given vs l 1=singlesV n l∧narrowV n given vs l 2=hiddenV n l∧narrowV n given vs l 3=pairsV n l∧narrowV n given vs l 4=rulesV n given vs l:=by
 refine ⟨?_,?_,?_,?_⟩ <;> (unfold narrowV; rw [if_pos ⟨hp,hl⟩]; simp)
theorem narrow_good {n:Int} {given:List Int} {vs:List V} (hp:puzzleV n given vs=true) {most:Nat} (hm:most ≤ 4):Good (narrowV n given vs) n most:=fun l t hl h1 h2=>by
 obtain ⟨c1,c2,c3,c4⟩:=narrowV_cases hp hl
 have:t=1 ∨ t=2 ∨ t=3 ∨ t=4:=by omega
 rcases this with rfl | rfl | rfl | rfl
 ·rw [c1]; exact singlesV_good hl
 ·rw [c2]; exact hiddenV_good hl
 ·rw [c3]; exact pairsV_good hl
 ·rw [c4]; exact rulesV_good hp hl
theorem narrow_keeps {n:Int} {given:List Int} {vs:List V} (hp:puzzleV n given vs=true) {l g:List Int} (hl:masksOk n l=true) (hg:g ∈ allSols n given vs) (h:InM l g) {t:Int} (h1:1 ≤ t) (h2:t ≤ 4):InM (narrowV n given vs l t) g:=by
 obtain ⟨c1,c2,c3,c4⟩:=narrowV_cases hp hl
 have hs:=sol_square hp hg
 have:t=1 ∨ t=2 ∨ t=3 ∨ t=4:=by omega
 rcases this with rfl | rfl | rfl | rfl
 ·rw [c1]; exact singlesV_keeps hl hs h
 ·rw [c2]; exact hiddenV_keeps hl hs h
 ·rw [c3]; exact pairsV_keeps hl hs h
 ·rw [c4]; exact rulesV_keeps hp hl hg h
theorem run_keeps {n:Int} {given:List Int} {vs:List V} (hp:puzzleV n given vs=true) {most:Nat} (hm:most ≤ 4) {g:List Int} (hg:g ∈ allSols n given vs) {l:List Int} (hl:masksOk n l=true):InM l g→InM (lastV (runS (narrowV n given vs) most l) l) g:=by
 refine runS_ind (narrow_good hp hm) (C:=fun l r=>InM l g→InM (lastV r l) g) ?_ ?_ (total l + 1) l hl (by omega)
 ·intro l hl e h; exact h
 ·intro l t l' hl hl' hs ht e ih h
  obtain ⟨h1,h2,_⟩:=next_some _ _ e
  refine ih ?_
  rw [h2]
  exact narrow_keeps hp hl hg h h1.1 (by omega)
def peerB (n line a b:Nat):Bool:=!(decide (2 ≤ n) && (decide (line < 2 * n) && (decide (a < n) && (decide (b < n) && !(a == b))))) || (!(lc n line a == lc n line b) && (lc n line a / n == lc n line b / n || lc n line a % n == lc n line b % n))
theorem tab_peer:∀ n:Nat,n < 5→∀ line:Nat,line < 8→∀ a:Nat,a < 4→∀ b:Nat,b < 4→peerB n line a b=true:=by decide +kernel
theorem lc_peer {n:Int} (hn:2 ≤ n∧n ≤ 4) {line a b:Nat} (hl:(line:Int) < 2 * n) (ha:(a:Int) < n) (hb:(b:Int) < n) (hab:a ≠ b):peer n.toNat (lc n line a) (lc n line b):=by
 have:=tab_peer n.toNat (by omega) line (by omega) a (by omega) b (by omega)
 unfold peerB at this
 rw [decide_eq_true (show 2 ≤ n.toNat by omega),decide_eq_true (show line < 2 * n.toNat by omega),decide_eq_true (show a < n.toNat by omega),decide_eq_true (show b < n.toNat by omega),show (a == b)=false by simpa using hab,show ((n.toNat:Nat):Int)=n by omega] at this
 simp only [Zx,Za,Zy,Bool.false_or,Bool.and_eq_true,Bool.not_eq_true',beq_eq_false_iff_ne,Bool.or_eq_true,beq_iff_eq] at this
 exact this
theorem subAll_fix {l:List Int} {P:Nat→Nat→Prop} (hl:Ms l) (h:subAll l P=l) {j v:Nat} (hj:j < l.length) (hv:has (l.getD j 0) v=true):¬ P j v:=by
 have:=(subAll_ok hl P).has j v hj
 rw [h] at this
 exact (this.1 hv).2
theorem sub_into {F l:List Int} {P:Nat→Nat→Prop} (hl:Ms l) (hs:SubM F l) (h:∀ j v,j < l.length→has (F.getD j 0) v=true→¬ P j v):SubM F (subAll l P):=by
 have hsub:=subAll_ok hl P
 refine ⟨by rw [hsub.len]; exact hs.1,fun i v hi hv=>?_⟩
 rw [hsub.len] at hi
 exact (hsub.has i v hi).2 ⟨hs.2 i v hi hv,h i v hi hv⟩
theorem in_pos {n:Int} {F g:List Int} (hF:masksOk n F=true) (hg:gridOk g n=true) (hin:InM F g) {k:Nat} (hk:k < F.length):g.getD k 0 ∈ maskVals (F.getD k 0):=hin.mem hF hg (by rw [square_len hF hg]; exact hk)
theorem mono_singles {n:Int} {F l g:List Int} (hF:masksOk n F=true) (hl:masksOk n l=true) (hg:g ∈ squares n) (hin:InM F g) (hs:SubM F l) (hfix:singlesV n F=F):SubM F (singlesV n l):=by
 have hn:=(masksOk_iff.1 hl).1
 have hq:=squares_pos hn hg
 unfold singlesV at hfix ⊢
 rw [if_pos hF] at hfix
 rw [if_pos hl]
 refine sub_into (masks_M hl) hs fun j v hj hv=>?_
 rintro ⟨k,hk,hp,h1,h2⟩
 have hFk:k < F.length:=by rw [hs.1]; exact hk
 refine subAll_fix (masks_M hF) hfix (by rw [hs.1]; exact hj) hv ⟨k,hFk,hp,?_,?_⟩
 ·have m:=in_pos hF hq.2.1 hin hFk
  have c:=cnt_sub (masks_at hF hFk) (masks_at hl hk) fun v hv=>hs.2 k v hk hv
  unfold single at h1 ⊢
  rw [beq_iff_eq] at h1 ⊢
  unfold cntM at c
  have:0 < (maskVals (F.getD k 0)).length:=List.length_pos_of_mem m
  omega
 ·have m:=in_pos hF hq.2.1 hin hFk
  have m2:g.getD k 0 ∈ maskVals (l.getD k 0):=by
   have h0:=maskVals_mem m
   have:=(mv_has (masks_at hF hFk) (g.getD k 0).toNat).2 (by rw [show (((g.getD k 0).toNat:Nat):Int)=g.getD k 0 by omega]; exact m)
   have:=(mv_has (masks_at hl hk) (g.getD k 0).toNat).1 (hs.2 k _ hk this)
   rw [show (((g.getD k 0).toNat:Nat):Int)=g.getD k 0 by omega] at this
   exact this
  rw [mv_has (masks_at hl hk)] at h2
  unfold single at h1
  rw [beq_iff_eq] at h1
  obtain ⟨x,ex⟩:=List.length_eq_one_iff.1 h1
  rw [ex,List.mem_singleton] at m2 h2
  rw [mv_has (masks_at hF hFk),h2,← m2]
  exact m
theorem mono_hidden {n:Int} {F l g:List Int} (hF:masksOk n F=true) (hl:masksOk n l=true) (hg:g ∈ squares n) (hin:InM F g) (hs:SubM F l) (hfix:hiddenV n F=F):SubM F (hiddenV n l):=by
 have hn:=(masksOk_iff.1 hl).1
 have hq:=squares_pos hn hg
 unfold hiddenV at hfix ⊢
 rw [if_pos hF] at hfix
 rw [if_pos hl]
 refine sub_into (masks_M hl) hs fun j w hj hw=>?_
 rintro ⟨line,v,h1,h2,h3,h4,h5⟩
 refine subAll_fix (masks_M hF) hfix (by rw [hs.1]; exact hj) hw ⟨line,v,h1,h2,h3,?_,h5⟩
 have e:lineHas n F line v=(lineHas n l line v).filter fun c=>has (F.getD c.toNat 0) v:=by
  unfold lineHas
  rw [List.filter_filter]
  refine List.filter_congr fun c hc=>?_
  have:=line_in hl hc
  cases e1:has (F.getD c.toNat 0) v with
  | false=>rfl
  | true=>rw [hs.2 _ v this.2.1 e1]; rfl
 rw [e,h4]
 obtain ⟨i,hi,hiv⟩:=line_val hn hg h1 (v:=v) ⟨by omega,h3⟩
 have hc:=lc_lt hn h1 hi
 have hsz:=(masksOk_iff.1 hF).2.2
 have hlen:=square_len hF hq.2.1
 have hh:=hin (lc n line i) (by omega)
 rw [hiv,Int.toNat_natCast] at hh
 have hm:((lc n line i:Nat):Int) ∈ lineHas n F line v:=by
  unfold lineHas
  rw [List.mem_filter,hc.2]
  refine ⟨mem_getD (by have:=(line_at hn h1 hi).2; omega),?_⟩
  rw [← hc.2,Int.toNat_natCast]; exact hh
 rw [e,h4,List.mem_filter] at hm
 simp only [List.mem_singleton] at hm
 have hm2:=hm.2
 rw [hm.1] at hm2
 exact List.filter_eq_self.2 fun c hc=>by rw [List.mem_singleton] at hc; subst hc; exact hm2
theorem two_sub {n:Int} {F m:Int} (hF:maskOk n F=true) (hm:maskOk n m=true) (hs:∀ v:Nat,has F v=true→has m v=true) (h2:two m=true) {x y:Int} (hx:x ∈ maskVals F) (hy:y ∈ maskVals m) (hxy:x ≠ y):F=m ∨ maskVals F=[x]:=by
 have c:=cnt_sub hF hm hs
 unfold two at h2
 rw [beq_iff_eq] at h2
 unfold cntM at c
 have p:0 < (maskVals F).length:=List.length_pos_of_mem hx
 by_cases e:(maskVals F).length=2
 ·exact .inl (c.2 (by omega))
 ·right
  obtain ⟨z,ez⟩:=List.length_eq_one_iff.1 (show (maskVals F).length=1 by omega)
  rw [ez] at hx ⊢
  rw [List.mem_singleton] at hx
  rw [hx]
theorem mono_pairs {n:Int} {F l g:List Int} (hF:masksOk n F=true) (hl:masksOk n l=true) (hg:g ∈ squares n) (hin:InM F g) (hs:SubM F l) (hfix1:singlesV n F=F) (hfix:pairsV n F=F):SubM F (pairsV n l):=by
 have hn:=(masksOk_iff.1 hl).1
 have hq:=squares_pos hn hg
 unfold pairsV at hfix ⊢
 unfold singlesV at hfix1
 rw [if_pos hF] at hfix hfix1
 rw [if_pos hl]
 refine sub_into (masks_M hl) hs fun c v hj hv=>?_
 rintro ⟨line,i,j,k,h1,h2,h3,h4,h5,h6,h7,h8,h9,h10⟩
 have hsz:=(masksOk_iff.1 hl).2.2
 have hlenF:=hs.1
 have hjn:(j:Int) < n:=by omega
 have ci:=lc_lt hn h1 h3
 have cj:=lc_lt hn h1 hjn
 have hi':lc n line i < F.length:=by omega
 have hj':lc n line j < F.length:=by omega
 have hc':c < F.length:=by omega
 have mi:=in_pos hF hq.2.1 hin hi'
 have mj:=in_pos hF hq.2.1 hin hj'
 have dij:=square_line hn hg h1 h3 hjn (by omega)
 have hsi:∀ v:Nat,has (F.getD (lc n line i) 0) v=true→has (l.getD (lc n line i) 0) v=true:=fun v hv=>hs.2 _ v (by omega) hv
 have hsj:∀ v:Nat,has (F.getD (lc n line j) 0) v=true→has (l.getD (lc n line i) 0) v=true:=fun v hv=>by rw [h7]; exact hs.2 _ v (by omega) hv
 have up:∀ {a:Int} {x:Int},maskOk n a=true→(∀ v:Nat,has a v=true→has (l.getD (lc n line i) 0) v=true)→x ∈ maskVals a→x ∈ maskVals (l.getD (lc n line i) 0):=fun {a x} ha hsa hx=>by
  have h0:=maskVals_mem hx
  have q:=(mv_has ha x.toNat).2 (by rw [show ((x.toNat:Nat):Int)=x by omega]; exact hx)
  have:=(mv_has (masks_at hl (show lc n line i < l.length by omega)) x.toNat).1 (hsa _ q)
  rw [show ((x.toNat:Nat):Int)=x by omega] at this
  exact this
 have okl:=masks_at hl (show lc n line i < l.length by omega)
 have ui:=up (masks_at hF hi') hsi mi
 have uj:=up (masks_at hF hj') hsj mj
 have hv2:=h10
 rw [mv_has okl] at hv2
 have hvij:(v:Int)=g.getD (lc n line i) 0 ∨ (v:Int)=g.getD (lc n line j) 0:=by
  have h8':=h8
  unfold two at h8'
  rw [beq_iff_eq] at h8'
  obtain ⟨x,y,exy⟩:=len_two h8'
  rw [exy] at ui uj hv2
  simp only [List.mem_cons,List.not_mem_nil,or_false] at ui uj hv2
  omega
 have noPS:=fun {a w:Nat} (ha:a < F.length) (hw:has (F.getD a 0) w=true)=>subAll_fix (masks_M hF) hfix1 ha hw
 have one:∀ {a:Nat} (_:a < F.length),maskVals (F.getD a 0)=[g.getD a 0]→single (F.getD a 0)=true∧has (F.getD a 0) (g.getD a 0).toNat=true:=fun {a} ha e=>by
  refine ⟨by unfold single; rw [e]; rfl,hin a (by rw [square_len hF hq.2.1]; exact ha)⟩
 -- if one of the two cells has one value alone, so has the other
 have both:maskVals (F.getD (lc n line i) 0)=[g.getD (lc n line i) 0]→maskVals (F.getD (lc n line j) 0)=[g.getD (lc n line j) 0]→False:=fun ei ej=>by
  subst h9
  rcases hvij with e | e
  ·refine noPS hc' hv ⟨lc n line i,hi',lc_peer hn h1 h4 h3 h5,(one hi' ei).1,?_⟩
   have:=(one hi' ei).2
   rw [← e,Int.toNat_natCast] at this; exact this
  ·refine noPS hc' hv ⟨lc n line j,hj',lc_peer hn h1 h4 hjn h6,(one hj' ej).1,?_⟩
   have:=(one hj' ej).2
   rw [← e,Int.toNat_natCast] at this; exact this
 rcases two_sub (masks_at hF hi') okl hsi h8 mi uj dij with ei | ei
 ·rcases two_sub (masks_at hF hj') okl hsj h8 mj ui (Ne.symm dij) with ej | ej
  ·exact subAll_fix (masks_M hF) hfix hc' hv ⟨line,i,j,k,h1,h2,h3,h4,h5,h6,by rw [ei,ej],by rw [ei]; exact h8,h9,by rw [ei]; exact h10⟩
  ·exfalso
   -- the value of cell j would stand in cell i
   refine noPS hi' (w:=(g.getD (lc n line j) 0).toNat) ?_ ⟨lc n line j,hj',lc_peer hn h1 h3 hjn (by omega),(one hj' ej).1,(one hj' ej).2⟩
   rw [ei]
   have h0:=maskVals_mem uj
   rw [mv_has okl,show (((g.getD (lc n line j) 0).toNat:Nat):Int)=g.getD (lc n line j) 0 by omega]
   exact uj
 ·rcases two_sub (masks_at hF hj') okl hsj h8 mj ui (Ne.symm dij) with ej | ej
  ·exfalso
   refine noPS hj' (w:=(g.getD (lc n line i) 0).toNat) ?_ ⟨lc n line i,hi',lc_peer hn h1 hjn h3 (by omega),(one hi' ei).1,(one hi' ei).2⟩
   rw [ej]
   have h0:=maskVals_mem ui
   rw [mv_has okl,show (((g.getD (lc n line i) 0).toNat:Nat):Int)=g.getD (lc n line i) 0 by omega]
   exact ui
  ·exact both ei ej
theorem subM_eq {n:Int} {a b:List Int} (ha:masksOk n a=true) (hb:masksOk n b=true) (h:SubM a b) (h':SubM b a):a=b:=by
 apply Classical.byContradiction
 intro hne
 have h1:=(masks_total ha hb h).2 hne
 have h2:=(masks_total hb ha h').1
 omega
theorem mono_rules {n:Int}:∀ (vs:List V) (F l:List Int),(∀ r ∈ vs,ruleOkV n r=true)→masksOk n F=true→masksOk n l=true→SubM F l→vs.foldl (ruleStep n) F=F→SubM F (vs.foldl (ruleStep n) l)
 | [],F,l,_,_,_,hs,_=>hs
 | r :: vs,F,l,hv,hF,hl,hs,hfix=>by
  have hr:=hv r (by simp)
  have hv':∀ q ∈ vs,ruleOkV n q=true:=fun q hq=>hv q (List.mem_cons_of_mem _ hq)
  have s1:=ruleStep_sub hr hF
  have s2:=ruleStep_sub hr hl
  rw [List.foldl_cons] at hfix ⊢
  obtain ⟨a,b⟩:=rules_fold vs (ruleStep n F r) hv' (s1.ok hF)
  rw [hfix] at b
  have e:ruleStep n F r=F:=subM_eq (s1.ok hF) hF s1.subM b
  rw [e] at hfix
  refine mono_rules vs F (ruleStep n l r) hv' hF (s2.ok hl) ?_ hfix
  refine ⟨by rw [s2.len]; exact hs.1,fun x v hx hh=>?_⟩
  rw [s2.len] at hx
  have hxF:x < F.length:=by rw [hs.1]; exact hx
  refine (s2.has x v hx).2 ⟨hs.2 x v hx hh,?_⟩
  have h1:=s1.has x v hxF
  rw [e] at h1
  have h2:=(h1.1 hh).2
  rintro ⟨u,hu,hux,hn⟩
  apply h2
  refine ⟨u,hu,hux,?_⟩
  rintro ⟨ws,w1,w2,w3⟩
  apply hn
  refine ⟨ws,w1.mono (by rw [own_len,own_len]) (fun i hi w hw=>?_),w2,w3⟩
  rw [own_len] at hi
  rw [own_at hi] at hw ⊢
  have cF:=rule_cells hr hF hi
  have cl:=rule_cells hr hl hi
  have h0:=maskVals_mem hw
  have q:=(mv_has (masks_at hF cF) w.toNat).2 (by rw [show ((w.toNat:Nat):Int)=w by omega]; exact hw)
  have:=(mv_has (masks_at hl cl) w.toNat).1 (hs.2 _ _ cl q)
  rw [show ((w.toNat:Nat):Int)=w by omega] at this
  exact this
theorem mono_narrow {n:Int} {given:List Int} {vs:List V} (hp:puzzleV n given vs=true) {F l g:List Int} (hF:masksOk n F=true) (hl:masksOk n l=true) (hg:g ∈ allSols n given vs) (hin:InM F g) (hs:SubM F l) {t:Int} (h1:1 ≤ t) (h2:t ≤ 4) (hfix:∀ u,1 ≤ u→u ≤ t→narrowV n given vs F u=F):SubM F (narrowV n given vs l t):=by
 obtain ⟨c1,c2,c3,c4⟩:=narrowV_cases hp hl
 obtain ⟨f1,f2,f3,f4⟩:=narrowV_cases hp hF
 have hsq:=sol_square hp hg
 have:t=1 ∨ t=2 ∨ t=3 ∨ t=4:=by omega
 rcases this with rfl | rfl | rfl | rfl
 ·rw [c1]; exact mono_singles hF hl hsq hin hs (by rw [← f1]; exact hfix 1 (by omega) (by omega))
 ·rw [c2]; exact mono_hidden hF hl hsq hin hs (by rw [← f2]; exact hfix 2 (by omega) (by omega))
 ·rw [c3]; exact mono_pairs hF hl hsq hin hs (by rw [← f1]; exact hfix 1 (by omega) (by omega)) (by rw [← f3]; exact hfix 3 (by omega) (by omega))
 ·rw [c4]
  have:=hfix 4 (by omega) (by omega)
  rw [f4] at this
  unfold rulesV at this ⊢
  rw [if_pos ⟨hp,hF⟩] at this
  rw [if_pos ⟨hp,hl⟩]
  exact mono_rules vs F l (puzzleV_rules hp) hF hl hs this
theorem run_mono {n:Int} {given:List Int} {vs:List V} (hp:puzzleV n given vs=true) {most:Nat} (hm:most ≤ 4) {F g:List Int} (hF:masksOk n F=true) (hg:g ∈ allSols n given vs) (hin:InM F g) (hfix:∀ u,1 ≤ u→u < 1 + (most:Int)→narrowV n given vs F u=F) {l:List Int} (hl:masksOk n l=true):SubM F l→SubM F (lastV (runS (narrowV n given vs) most l) l):=by
 refine runS_ind (narrow_good hp hm) (C:=fun l r=>SubM F l→SubM F (lastV r l)) ?_ ?_ (total l + 1) l hl (by omega)
 ·intro l hl e h; exact h
 ·intro l t l' hl hl' hs ht e ih h
  obtain ⟨h1,h2,_⟩:=next_some _ _ e
  refine ih ?_
  rw [h2]
  exact mono_narrow hp hF hl hg hin h h1.1 (by omega) fun u hu1 hu2=>hfix u hu1 (by omega)
theorem run_more {n:Int} {given:List Int} {vs:List V} (hp:puzzleV n given vs=true) {a b:Nat} (hab:a ≤ b) (hb:b ≤ 4) {g:List Int} (hg:g ∈ allSols n given vs) {l:List Int} (hl:masksOk n l=true) (hin:InM l g):SubM (lastV (runS (narrowV n given vs) b l) l) (lastV (runS (narrowV n given vs) a l) l):=by
 obtain ⟨e1,e2,e3,_⟩:=run_end (narrow_good hp hb) hl
 refine run_mono hp (by omega) e1 hg (run_keeps hp hb hg hl hin) (fun u h1 h2=>?_) hl e2
 exact (next_none b 1).1 e3 u h1 (by omega)
theorem PQ2_symm {n:Int} {l:List Int} {line i j x w:Nat} (h:PQ2 n l line i j x w):PQ2 n l line j i x w:=by
 obtain ⟨h1,h2,u,h3,h4,h5,h6,h7⟩:=h
 exact ⟨h1.symm,by rw [← h1]; exact h2,u,h3,h5,h4,h6,by rw [← h1]; exact h7⟩
theorem iPairs_l13 (rec:Rec) (k:Nat) (L0:Sl→Int→Sl→Int→Int→Hp→An) (L1:Sl→Int→Sl→Sl→Int→Int→Sl→Int→Int→Hp→An) (L5:Sl→Int→Sl→Sl→Int→Int→Int→Sl→Int→Int→Sl→Int→Int→Hp→An) {H0 Hb:Hp} {ms t cs x28 x38:Sl} {l:List Int} {n x21 x22 x29 x30 x39 x40:Int} {line i jj:Nat} (hmk:masksOk n l=true) (hm:Reads .i64 H0 ms l) (hline:(line:Int) < 2 * n) (htb:t.blk < Hb.length) (hi:(i:Int) < n) (hj:(jj:Int) < n) :
  ∀ (j q fuel:Nat) (H:Hp) (a:List Int) (P:Nat→Nat→Prop),(q:Int) + j=n→j < fuel→H0 <+: H→Own 1 Hb H cs ((lineCells n line).map (.int .i64))→Own 1 H0 H t (a.map (.int .i64))→Sub l a P →
   ∃ H' a',impl_NarrowPairs.l13 rec k L0 L1 L5 fuel ms n t cs (lc n line i:Int) (lc n line jj:Int) x21 x22 x28 x29 x30 x38 x39 x40 cs n q H=L5 ms n t cs (lc n line i:Int) x21 x22 x28 x29 x30 x38 x39 (IntKind.i64.wrap (x40 + 1)) H'∧H0 <+: H'∧Own 1 H0 H' t (a'.map (.int .i64))∧Adv t.blk H H'∧Sub l a' (fun x w=>P x w ∨ ∃ u:Nat,q ≤ u∧(u:Int) < n∧u ≠ i∧u ≠ jj∧x=lc n line u∧has (l.getD (lc n line i) 0) w=true):=by
 obtain ⟨l4,l16,lN,hN,n2,n4⟩:=masks_len hmk
 have hll:=line_len hmk hline
 have hn:2 ≤ n∧n ≤ 4:=(masksOk_iff.1 hmk).1
 have hsz:=(masksOk_iff.1 hmk).2.2
 have hM:=masks_M hmk
 have hml:=hm.len
 intro j
 induction j with
 | zero=>
  intro q fuel H a P hq hf hp hc ho hs
  obtain ⟨fuel,rfl⟩:=Zs fuel (by omega)
  refine ⟨H,a,?_,hp,ho,Adv.refl _ _,hs.congr fun x w hx=>⟨.inl,by rintro (h | ⟨u,h1,h2,_⟩); exact h; omega⟩⟩
  simp (disch:=omega) only [impl_NarrowPairs.l13,impl_NarrowPairs.j11,df,Zf]
 | succ j ih=>
  intro q fuel H a P hq hf hp hc ho hs
  obtain ⟨fuel,rfl⟩:=Zs fuel (by omega)
  have hal:=hs.len
  have htl:t.len=a.length:=by have:=ho.len; simpa using this
  have hcl:=(own_reads hc).len
  have cq:=lc_lt hn hline (show (q:Int) < n by omega)
  have ci:=lc_lt hn hline hi
  have hrq:=rdn (own_reads hc) (i:=q) (by omega)
  rw [← cq.2] at hrq
  have hrm:=pf_reads hp hm
  have inj:∀ u:Nat,(u:Int) < n→u ≠ q→lc n line q ≠ lc n line u:=fun u hu hne=>(lc_peer hn hline (show (q:Int) < n by omega) hu (fun e=>hne e.symm)).1
  by_cases c:q ≠ i∧q ≠ jj
  ·have n1:=inj i hi (fun e=>c.1 e.symm)
   have n2:=inj jj hj (fun e=>c.2 e.symm)
   obtain ⟨H1,d1,d2,d3,d4⟩:=own_set1 ho hp (lc n line q) (by omega) (mSub (a.getD (lc n line q) 0) (l.getD (lc n line i) 0))
   obtain ⟨H',a',e1,e2,e3,e4,e5⟩:=ih (q + 1) fuel H1 _ _ (by omega) (by omega) d2 (d4.own htb hc) d3 (hs.step _ (by omega) (hM.at (lc n line i)))
   push_cast at e1
   refine ⟨H',a',?_,e2,e3,d4.trans e4,e5.congr fun x w hx=>?_⟩
   ·simp (disch:=omega) only [impl_NarrowPairs.l13,impl_NarrowPairs.j14,impl_NarrowPairs.j15,impl_NarrowPairs.j16,impl_NarrowPairs.j18,impl_NarrowPairs.j19,dt,nt,Za,Zt,Zn,Zo,hrq,rdn (own_reads ho),rdn hrm,m_sub (hs.ms.at _) (hM.at _),d1,wr (n:=(q:Int) + 1),e1]
   ·constructor
    ·rintro ((h | ⟨h1,h2⟩) | ⟨u,h1,h2⟩)
     ·exact .inl h
     ·exact .inr ⟨q,Nat.le_refl _,by omega,c.1,c.2,h1,h2⟩
     ·exact .inr ⟨u,by omega,h2⟩
    ·rintro (h | ⟨u,h1,h2,h3,h4,h5,h6⟩)
     ·exact .inl (.inl h)
     ·by_cases e:u=q
      ·subst e; exact .inl (.inr ⟨h5,h6⟩)
      ·exact .inr ⟨u,by omega,h2,h3,h4,h5,h6⟩
  ·obtain ⟨H',a',e1,e2,e3,e4,e5⟩:=ih (q + 1) fuel H a P (by omega) (by omega) hp hc ho hs
   push_cast at e1
   refine ⟨H',a',?_,e2,e3,e4,e5.congr fun x w hx=>?_⟩
   ·by_cases c1':q=i
    ·subst c1'
     simp (disch:=omega) only [impl_NarrowPairs.l13,impl_NarrowPairs.j14,impl_NarrowPairs.j15,impl_NarrowPairs.j17,impl_NarrowPairs.j18,impl_NarrowPairs.j19,dt,nf,Za,Zt,Zf,Zn,Zo,hrq,wr (n:=(q:Int) + 1),e1]
    ·have hqj:q=jj:=by omega
     subst hqj
     have n1:=inj i hi (fun e=>c1' e.symm)
     simp (disch:=omega) only [impl_NarrowPairs.l13,impl_NarrowPairs.j14,impl_NarrowPairs.j15,impl_NarrowPairs.j16,impl_NarrowPairs.j18,impl_NarrowPairs.j19,dt,nt,nf,Za,Zt,Zf,Zn,Zo,hrq,wr (n:=(q:Int) + 1),e1]
   ·constructor
    ·rintro (h | ⟨u,h1,h2⟩)
     ·exact .inl h
     ·exact .inr ⟨u,by omega,h2⟩
    ·rintro (h | ⟨u,h1,h2,h3,h4,h5,h6⟩)
     ·exact .inl h
     ·refine .inr ⟨u,?_,h2,h3,h4,h5,h6⟩
      by_cases e:u=q
      ·subst e; exact absurd ⟨h3,h4⟩ c
      ·omega
theorem iPairs_l5 {k:Nat} (hk:2000000 ≤ k) (L0:Sl→Int→Sl→Int→Int→Hp→An) (L1:Sl→Int→Sl→Sl→Int→Int→Sl→Int→Int→Hp→An) {H0 Hb:Hp} {ms t cs x28:Sl} {l:List Int} {n x21 x22 x29 x30:Int} {line i:Nat} (hmk:masksOk n l=true) (hm:Reads .i64 H0 ms l) (hline:(line:Int) < 2 * n) (htb:t.blk < Hb.length) (hi:(i:Int) < n) :
  ∀ (j p fuel:Nat) (H:Hp) (a:List Int) (P:Nat→Nat→Prop),((i + 1 + p:Nat):Int) + j=n→j < fuel→H0 <+: H→Own 1 Hb H cs ((lineCells n line).map (.int .i64))→Own 1 H0 H t (a.map (.int .i64))→Sub l a P →
   ∃ H' a',impl_NarrowPairs.l5 (callF Ab.PP orc k) k L0 L1 fuel ms n t cs (lc n line i:Int) x21 x22 x28 x29 x30 (Sl.mk cs.nil cs.blk (cs.off + (i + 1)) (n.toNat - (i + 1))) ((n.toNat - (i + 1):Nat):Int) p H=L1 ms n t cs x21 x22 x28 x29 (IntKind.i64.wrap (x30 + 1)) H'∧H0 <+: H'∧Own 1 H0 H' t (a'.map (.int .i64))∧Own 1 Hb H' cs ((lineCells n line).map (.int .i64))∧Sub l a' (fun x w=>P x w ∨ ∃ u:Nat,i + 1 + p ≤ u∧(u:Int) < n∧PQ2 n l line i u x w):=by
 obtain ⟨l4,l16,lN,hN,n2,n4⟩:=masks_len hmk
 have hll:=line_len hmk hline
 have hn:2 ≤ n∧n ≤ 4:=(masksOk_iff.1 hmk).1
 have hsz:=(masksOk_iff.1 hmk).2.2
 have hml:=hm.len
 intro j
 induction j with
 | zero=>
  intro p fuel H a P hq hf hp hc ho hs
  obtain ⟨fuel,rfl⟩:=Zs fuel (by omega)
  refine ⟨H,a,?_,hp,ho,hc,hs.congr fun x w hx=>⟨.inl,by rintro (h | ⟨u,h1,h2,_⟩); exact h; omega⟩⟩
  simp (disch:=omega) only [impl_NarrowPairs.l5,impl_NarrowPairs.j7,df,Zf]
 | succ j ih=>
  intro p fuel H a P hq hf hp hc ho hs
  obtain ⟨fuel,rfl⟩:=Zs fuel (by omega)
  have hcl:=(own_reads hc).len
  have ci:=lc_lt hn hline hi
  have cb:=lc_lt hn hline (show ((i + 1 + p:Nat):Int) < n by omega)
  have hrs:=reads_from (own_reads hc) (i + 1) (by omega)
  rw [hll] at hrs
  have hrp:=rdn hrs (i:=p) (by simp; omega)
  have edr:((lineCells n line).drop (i + 1)).getD p 0=(lineCells n line).getD (i + 1 + p) 0:=by
   rw [List.getD_eq_getElem?_getD,List.getElem?_drop,← List.getD_eq_getElem?_getD]
  rw [edr,← cb.2] at hrp
  have hrm:=pf_reads hp hm
  have hi2:lc n line i < l.length:=by omega
  have hb2:lc n line (i + 1 + p) < l.length:=by omega
  have h1:=OnesCount_ok (show 2 ≤ k by omega) (masks_at hmk hi2) H
  by_cases ce:l.getD (lc n line i) 0=l.getD (lc n line (i + 1 + p)) 0
  ·by_cases c3:cntM (l.getD (lc n line i) 0)=2
   ·obtain ⟨H2,a',b1,b2,b3,b4,b5⟩:=iPairs_l13 (callF Ab.PP orc k) k L0 L1 (impl_NarrowPairs.l5 (callF Ab.PP orc k) k L0 L1 fuel) (x21:=x21) (x22:=x22) (x28:=x28) (x29:=x29) (x30:=x30) (x38:=Sl.mk cs.nil cs.blk (cs.off + (i + 1)) (n.toNat - (i + 1))) (x39:=((n.toNat - (i + 1):Nat):Int)) (x40:=(p:Int)) hmk hm hline htb hi (jj:=i + 1 + p) (by omega) n.toNat 0 k H a P (by omega) (by omega) hp hc ho hs
    have hc2:=b4.own htb hc
    obtain ⟨H',a'',d1,d2,d3,d4,d5⟩:=ih (p + 1) fuel H2 a' _ (by omega) (by omega) b2 hc2 b3 b5
    push_cast at d1
    refine ⟨H',a'',?_,d2,d3,d4,d5.congr fun x w hx=>?_⟩
    ·simp only [Int.natCast_zero] at b1
     rw [← hN] at *
     have hlen:(cs.len:Int)=n:=by omega
     have hc2':((cntM (l.getD (lc n line i) 0):Nat):Int)=2:=by omega
     simp (disch:=omega) only [impl_NarrowPairs.l5,impl_NarrowPairs.j6,impl_NarrowPairs.j9,impl_NarrowPairs.j10,impl_NarrowPairs.j12,dt,nf,Za,Zt,Zf,Zn,Zo,AV.toI,if_true,hrp,rdn hrm,h1,hc2',hlen,b1,wr (n:=(p:Int) + 1),d1]
    ·have ht:two (l.getD (lc n line i) 0)=true:=by unfold two; unfold cntM at c3; rw [c3]; rfl
     constructor
     ·rintro ((h | ⟨u,h1,h2,h3,h4,h5,h6⟩) | ⟨u,h1,h2⟩)
      ·exact .inl h
      ·exact .inr ⟨i + 1 + p,Nat.le_refl _,by omega,ce,ht,u,h2,h3,h4,h5,h6⟩
      ·exact .inr ⟨u,by omega,h2⟩
     ·rintro (h | ⟨u,h1,h2,h3,h4,z,h5,h6,h7,h8,h9⟩)
      ·exact .inl (.inl h)
      ·by_cases e:u=i + 1 + p
       ·subst e; exact .inl (.inr ⟨z,by omega,h5,h6,h7,h8,h9⟩)
       ·exact .inr ⟨u,by omega,h2,h3,h4,z,h5,h6,h7,h8,h9⟩
   ·obtain ⟨H',a'',d1,d2,d3,d4,d5⟩:=ih (p + 1) fuel H a P (by omega) (by omega) hp hc ho hs
    push_cast at d1
    refine ⟨H',a'',?_,d2,d3,d4,d5.congr fun x w hx=>?_⟩
    ·have hc2':((cntM (l.getD (lc n line i) 0):Nat):Int) ≠ 2:=by omega
     simp (disch:=omega) only [impl_NarrowPairs.l5,impl_NarrowPairs.j6,impl_NarrowPairs.j9,impl_NarrowPairs.j10,impl_NarrowPairs.j11,dt,nf,nt hc2',Za,Zt,Zf,Zn,Zo,AV.toI,if_true,hrp,rdn hrm,h1,wr (n:=(p:Int) + 1),d1]
    ·have ht:¬ two (l.getD (lc n line i) 0)=true:=by unfold two; rw [beq_iff_eq]; exact c3
     constructor
     ·rintro (h | ⟨u,h1,h2⟩)
      ·exact .inl h
      ·exact .inr ⟨u,by omega,h2⟩
     ·rintro (h | ⟨u,h1,h2,h3,h4,h5⟩)
      ·exact .inl h
      ·exact absurd h4 ht
  ·obtain ⟨H',a'',d1,d2,d3,d4,d5⟩:=ih (p + 1) fuel H a P (by omega) (by omega) hp hc ho hs
   push_cast at d1
   refine ⟨H',a'',?_,d2,d3,d4,d5.congr fun x w hx=>?_⟩
   ·simp (disch:=omega) only [impl_NarrowPairs.l5,impl_NarrowPairs.j6,impl_NarrowPairs.j8,impl_NarrowPairs.j10,impl_NarrowPairs.j11,dt,nt ce,Za,Zt,Zf,Zn,Zo,hrp,rdn hrm,wr (n:=(p:Int) + 1),d1]
   ·constructor
    ·rintro (h | ⟨u,h1,h2⟩)
     ·exact .inl h
     ·exact .inr ⟨u,by omega,h2⟩
    ·rintro (h | ⟨u,h1,h2,h3,h4⟩)
     ·exact .inl h
     ·refine .inr ⟨u,?_,h2,h3,h4⟩
      by_cases e:u=i + 1 + p
      ·subst e; exact absurd h3 ce
      ·omega
theorem iPairs_l1 {k:Nat} (hk:2000000 ≤ k) (L0:Sl→Int→Sl→Int→Int→Hp→An) {H0 Hb:Hp} {ms t cs:Sl} {l:List Int} {n x21 x22:Int} {line:Nat} (hmk:masksOk n l=true) (hm:Reads .i64 H0 ms l) (hline:(line:Int) < 2 * n) (htb:t.blk < Hb.length) :
  ∀ (j i fuel:Nat) (H:Hp) (a:List Int) (P:Nat→Nat→Prop),(i:Int) + j=n→j < fuel→H0 <+: H→Own 1 Hb H cs ((lineCells n line).map (.int .i64))→Own 1 H0 H t (a.map (.int .i64))→Sub l a P →
   ∃ H' a',impl_NarrowPairs.l1 (callF Ab.PP orc k) k L0 fuel ms n t cs x21 x22 cs n i H=L0 ms n t x21 (IntKind.i64.wrap (x22 + 1)) H'∧H0 <+: H'∧Own 1 H0 H' t (a'.map (.int .i64))∧Sub l a' (fun x w=>P x w ∨ ∃ z u:Nat,i ≤ z∧z < u∧(u:Int) < n∧PQ2 n l line z u x w):=by
 obtain ⟨l4,l16,lN,hN,n2,n4⟩:=masks_len hmk
 have hll:=line_len hmk hline
 have hn:2 ≤ n∧n ≤ 4:=(masksOk_iff.1 hmk).1
 intro j
 induction j with
 | zero=>
  intro i fuel H a P hq hf hp hc ho hs
  obtain ⟨fuel,rfl⟩:=Zs fuel (by omega)
  refine ⟨H,a,?_,hp,ho,hs.congr fun x w hx=>⟨.inl,by rintro (h | ⟨z,u,h1,h2,h3,_⟩); exact h; omega⟩⟩
  simp (disch:=omega) only [impl_NarrowPairs.l1,impl_NarrowPairs.j4,df,Zf]
 | succ j ih=>
  intro i fuel H a P hq hf hp hc ho hs
  obtain ⟨fuel,rfl⟩:=Zs fuel (by omega)
  have hi:(i:Int) < n:=by omega
  have hcl:=(own_reads hc).len
  have ci:=lc_lt hn hline hi
  have hrq:=rdn (own_reads hc) (i:=i) (by omega)
  rw [← ci.2] at hrq
  obtain ⟨H1,a',b1,b2,b3,b4,b5⟩:=iPairs_l5 hk L0 (impl_NarrowPairs.l1 (callF Ab.PP orc k) k L0 fuel) (x21:=x21) (x22:=x22) (x28:=cs) (x29:=n) (x30:=(i:Int)) hmk hm hline htb hi (n.toNat - (i + 1)) 0 k H a P (by omega) (by omega) hp hc ho hs
  obtain ⟨H',a'',d1,d2,d3,d4⟩:=ih (i + 1) fuel H1 a' _ (by omega) (by omega) b2 b4 b3 b5
  push_cast at d1
  refine ⟨H',a'',?_,d2,d3,d4.congr fun x w hx=>?_⟩
  ·have hlen:(cs.len:Int)=n:=by omega
   have w1:IntKind.i64.wrap ((i:Int) + 1)=(i:Int) + 1:=wr (by omega) (by omega)
   have esl:(Sl.mk cs.nil cs.blk (cs.off + ((i:Int) + 1).toNat * 1) (n - ((i:Int) + 1)).toNat)=Sl.mk cs.nil cs.blk (cs.off + (i + 1)) (n.toNat - (i + 1)):=by
    congr 1 <;> omega
   have hq:((0:Int) ≤ (i:Int) + 1∧(i:Int) + 1 ≤ n∧n ≤ n∧True)∧0 < 1∧True:=⟨⟨by omega,by omega,by omega,trivial⟩,by omega,trivial⟩
   simp only [Int.natCast_zero] at b1
   simp (disch:=omega) only [impl_NarrowPairs.l1,impl_NarrowPairs.j3,dt,Za,Zt,Zn,Zo,hrq,hlen,w1,esl,ip hq]
   rw [show (n - ((i:Int) + 1)).toNat=n.toNat - (i + 1) by omega,b1,w1,d1]
  ·constructor
   ·rintro ((h | ⟨u,h1,h2,h3⟩) | ⟨z,u,h1,h2⟩)
    ·exact .inl h
    ·exact .inr ⟨i,u,Nat.le_refl _,by omega,h2,h3⟩
    ·exact .inr ⟨z,u,by omega,h2⟩
   ·rintro (h | ⟨z,u,h1,h2,h3,h4⟩)
    ·exact .inl (.inl h)
    ·by_cases e:z=i
     ·subst e; exact .inl (.inr ⟨u,by omega,h3,h4⟩)
     ·exact .inr ⟨z,u,by omega,h2,h3,h4⟩
theorem iPairs_l0 {k:Nat} (hk:2000000 ≤ k) {H0:Hp} {ms t:Sl} {l:List Int} {n:Int} (hmk:masksOk n l=true) (hm:Reads .i64 H0 ms l) :
  ∀ (j line fuel:Nat) (H:Hp) (a:List Int) (P:Nat→Nat→Prop),(line:Int) + j=2 * n→j < fuel→H0 <+: H→Own 1 H0 H t (a.map (.int .i64))→Sub l a P →
   ∃ H' a',impl_NarrowPairs.l0 (callF Ab.PP orc k) k fuel ms n t (2 * n) line H=some (.sl 1 t,H')∧H0 <+: H'∧Own 1 H0 H' t (a'.map (.int .i64))∧Sub l a' (fun x w=>P x w ∨ ∃ ln z u:Nat,line ≤ ln∧(ln:Int) < 2 * n∧z < u∧(u:Int) < n∧PQ2 n l ln z u x w):=by
 obtain ⟨l4,l16,lN,hN,n2,n4⟩:=masks_len hmk
 have hn:2 ≤ n∧n ≤ 4:=(masksOk_iff.1 hmk).1
 intro j
 induction j with
 | zero=>
  intro line fuel H a P hl hf hp ho hs
  obtain ⟨fuel,rfl⟩:=Zs fuel (by omega)
  refine ⟨H,a,?_,hp,ho,hs.congr fun x w hx=>⟨.inl,by rintro (h | ⟨ln,z,u,h1,h2,_⟩); exact h; omega⟩⟩
  simp (disch:=omega) only [impl_NarrowPairs.l0,impl_NarrowPairs.j2,df,Zf]
 | succ j ih=>
  intro line fuel H a P hl hf hp ho hs
  obtain ⟨fuel,rfl⟩:=Zs fuel (by omega)
  have hline:(line:Int) < 2 * n:=by omega
  obtain ⟨cs,H1,a1,a2,a3⟩:=implLineCells_own hk hn (line:=(line:Int)) ⟨by omega,hline⟩ H
  have hcl:=(own_reads a3).len
  have hll:=line_len hmk hline
  obtain ⟨H2,a',b1,b2,b3,b4⟩:=iPairs_l1 hk (impl_NarrowPairs.l0 (callF Ab.PP orc k) k fuel) (x21:=2 * n) (x22:=(line:Int)) hmk hm hline (own_lt' ho) n.toNat 0 k H1 a P (by omega) (by omega) (hp.trans a2) a3 (own_pf ho a2) hs
  obtain ⟨H',a'',d1,d2,d3,d4⟩:=ih (line + 1) fuel H2 a' _ (by omega) (by omega) b2 b3 b4
  push_cast at d1
  refine ⟨H',a'',?_,d2,d3,d4.congr fun x w hx=>?_⟩
  ·simp only [Int.natCast_zero] at b1
   have hlen:(cs.len:Int)=n:=by omega
   simp (disch:=omega) only [impl_NarrowPairs.l0,dt,Zt,Zo,AV.toS,if_true,a1,hlen,b1,wr (n:=(line:Int) + 1),d1]
  ·constructor
   ·rintro ((h | ⟨z,u,h1,h2,h3,h4⟩) | ⟨ln,z,u,h1,h2⟩)
    ·exact .inl h
    ·exact .inr ⟨line,z,u,Nat.le_refl _,by omega,h2,h3,h4⟩
    ·exact .inr ⟨ln,z,u,by omega,h2⟩
   ·rintro (h | ⟨ln,z,u,h1,h2,h3,h4,h5⟩)
    ·exact .inl (.inl h)
    ·by_cases e:ln=line
     ·subst e; exact .inl (.inr ⟨z,u,by omega,h3,h4,h5⟩)
     ·exact .inr ⟨ln,z,u,by omega,h2,h3,h4,h5⟩
theorem implNarrowPairs_ok {k:Nat} (hk:2000010 ≤ k) {H:Hp} {ms:Sl} {l:List Int} {n:Int} (hb:-1 ≤ n∧n ≤ 5) (hm:Reads .i64 H ms l) (hnn:ms.nil=false) (hl:l.length ≤ 1000) (hr:∀ m ∈ l,-2 ≤ m∧m ≤ 63) :
  ∃ t H',callF Ab.PP orc k impl_NarrowPairs.id [.sl 1 ms,.int .i64 n] H=some (.sl 1 t,H')∧H <+: H'∧NilOr H H' t (pairsV n l):=by
 obtain ⟨k,rfl⟩:=Zs k (by omega)
 rw [impl_NarrowPairs.call]
 have h1:=implMasksValid_ok (show 2000000 ≤ k by omega) hb hm hl hr
 have hml:=hm.len
 unfold pairsV
 cases hv:masksOk n l with
 | false=>
  rw [hv] at h1
  rw [iN (by simp)]
  exact ⟨Sl.none,H,by simp only [impl_NarrowPairs.f,dt,df,bt,bf,nt,nf,Za,Zy,Zx,Zt,Zf,Zn,Zz,Zi,Zo,wr,AV.toB,AV.toI,AV.toS,if_true,h1],(List.prefix_refl _),.inl ⟨rfl,rfl⟩⟩
 | true=>
  rw [hv] at h1
  rw [ip rfl]
  obtain ⟨l4,l16,lN,hN,n2,n4⟩:=masks_len hv
  have hM:=masks_M hv
  have h2:=Clone_own (show 1 ≤ k by omega) hm hnn hl
  have hnew:=own_new 1 H (l.map (.int .i64)) l.length (by simp)
  obtain ⟨H',a',b1,b2,b3,b4⟩:=iPairs_l0 (show 2000000 ≤ k by omega) hv hm (2 * n).toNat 0 k (H ++ [some (Blk.mk false (l.map (.int .i64)))]) l _ (by omega) (by omega) (List.prefix_append _ _) hnew (Sub.refl hM)
  have e:a'=subAll l (PQ n l):=(b4.congr fun x w hx=>(show _ ↔ PQ n l x w from by
   rw [PQ_iff]
   constructor
   ·rintro (h | ⟨ln,z,u,_,h1,h2,h3,h4⟩)
    ·exact h.elim
    ·exact ⟨ln,u,z,h1,h3,h2,PQ2_symm h4⟩
   ·rintro ⟨ln,i,u,h1,h2,h3,h4⟩
    exact .inr ⟨ln,u,i,by omega,h1,h3,h2,PQ2_symm h4⟩)).eq hM
  subst e
  refine ⟨_,H',?_,b2,.inr b3⟩
  simp only [Int.natCast_zero] at b1
  simp (disch:=omega) only [impl_NarrowPairs.f,dt,df,Zy,Zf,AV.toB,AV.toS,if_true,Zo,h1,h2,wr (n:=2 * n),b1]
theorem Rules_l3 (rec:Rec) (k:Nat) (L2:Sl→Int→Int→Sl→Sl→Hp→An) {H0 Hb:Hp} {n kind value:Int} {gs s cs us t:Sl} {cells fl:List Int} {i m:Nat} (hc:Reads .i64 H0 cs cells) (hcl:cells.length ≤ 1000) (hfl:fl.length=cells.length) (hin:∀ c ∈ cells,0 ≤ c∧c < (m:Int)) (hm:m ≤ 1000) (htb:t.blk < Hb.length) :
  ∀ (j q fuel:Nat) (H:Hp) (a:List Int),q + j=cells.length→j < fuel→H0 <+: H→Own 1 Hb H us (fl.map (.int .i64))→Own 1 H0 H t (a.map (.int .i64))→a.length=m →
   ∃ H',spec_NarrowRules.l3 rec k L2 fuel t i us q n gs s kind cs value H=L2 t (IntKind.i64.wrap ((i:Int) + 1)) n gs s H'∧H0 <+: H'∧Own 1 H0 H' t ((setAll cells a fl q j).map (.int .i64))∧Adv t.blk H H':=by
 have hcs:=hc.len
 intro j
 induction j with
 | zero=>
  intro q fuel H a hq hf hp hu ho ha
  obtain ⟨fuel,rfl⟩:=Zs fuel (by omega)
  refine ⟨H,?_,hp,ho,Adv.refl _ _⟩
  simp (disch:=omega) only [spec_NarrowRules.l3,spec_NarrowRules.j5,dt,df,Zt,Zf]
 | succ j ih=>
  intro q fuel H a hq hf hp hu ho ha
  obtain ⟨fuel,rfl⟩:=Zs fuel (by omega)
  have hq2:q < cells.length:=by omega
  obtain ⟨c0,c1⟩:=hin _ (mem_getD hq2)
  have hus:=(own_reads hu).len
  have htl:=(own_reads ho).len
  have hrc:=pf_reads hp hc
  obtain ⟨H1,a1,a2,a3,a4⟩:=own_set1 ho hp (cells.getD q 0).toNat (by omega) (fl.getD q 0)
  obtain ⟨H',b1,b2,b3,b4⟩:=ih (q + 1) fuel H1 _ (by omega) (by omega) a2 (a4.own htb hu) a3 (by simpa using ha)
  push_cast at b1
  refine ⟨H',?_,b2,b3,a4.trans b4⟩
  simp (disch:=omega) only [spec_NarrowRules.l3,dt,Za,Zt,Zn,Zo,rdn hrc,rdn (own_reads hu),a1,wr (n:=(q:Int) + 1),b1]
theorem val_drop (rs:List R) (i:Nat) (h:i < rs.length):(rs.drop i).map R.val=rs[i].val :: (rs.drop (i + 1)).map R.val:=by
 rw [List.drop_eq_getElem_cons h]; rfl
theorem Rules_l2 {k:Nat} (hk:2000040 ≤ k) {H0:Hp} {n:Int} {gs s t:Sl} {given:List Int} {rs:List R} (hz:PuzAt H0 n gs s given rs) (hro:∀ r ∈ rs,R.ok n r=true) :
  ∀ (j i fuel:Nat) (H:Hp) (a:List Int),i + j=rs.length→j < fuel→H0 <+: H→Own 1 H0 H t (a.map (.int .i64))→masksOk n a=true →
   ∃ H',spec_NarrowRules.l2 (callF PP orc k) k fuel t i n gs s H=some (.sl 1 t,H')∧H0 <+: H'∧Own 1 H0 H' t ((((rs.drop i).map R.val).foldl (ruleStep n) a).map (.int .i64)):=by
 have hrl:=hz.rr.len
 have hrl2:=hz.rl
 have hn:=hz.n4
 intro j
 induction j with
 | zero=>
  intro i fuel H a hi hf hp ho ha
  obtain ⟨fuel,rfl⟩:=Zs fuel (by omega)
  rw [List.drop_eq_nil_of_le (by omega)]
  refine ⟨H,?_,hp,ho⟩
  simp (disch:=omega) only [spec_NarrowRules.l2,spec_NarrowRules.j4,dt,df,Zt,Zf]
 | succ j ih=>
  intro i fuel H a hi hf hp ho ha
  obtain ⟨fuel,rfl⟩:=Zs fuel (by omega)
  have hi2:i < rs.length:=by omega
  obtain ⟨l0,l1,l2⟩:=rules_at1 (pf_readsR hp hz.rr) i hi2
  have hrc:=hz.rc _ (List.getElem_mem hi2)
  have hrk:=hro _ (List.getElem_mem hi2)
  have hok:ruleOkV n rs[i].val=true:=hrk
  obtain ⟨c1,c2,c3,c4⟩:=ruleOk_cells hok
  obtain ⟨ml4,ml16,_⟩:=masks_len ha
  have hm2:=(masksOk_iff.1 ha).2.2
  obtain ⟨u,H1,a1,a2,a3⟩:=specRuleMasks_ok (show 2000030 ≤ k by omega) (n:=n) (kind:=rs[i].kind) (value:=rs[i].value) (by omega) (pf_reads hp (hz.rr.cs i hi2)) (own_reads ho) (by omega) (by omega)
  have hfl:(ruleMasksS n rs[i].kind rs[i].value rs[i].cells a).length=rs[i].cells.length:=by
   have e:ruleMasksS n rs[i].kind rs[i].value rs[i].cells a=ruleMasksV rs[i].kind rs[i].value (ownOf a rs[i].cells):=ruleMasks_S hok ha
   have h4:rs[i].cells.length ≤ 4:=c2
   rw [e,(ruleMasks_ok (by rw [own_len]; exact h4)).2,own_len]
  obtain ⟨H2,b1,b2,b3,b4⟩:=Rules_l3 (callF PP orc k) k (spec_NarrowRules.l2 (callF PP orc k) k fuel) (n:=n) (kind:=rs[i].kind) (value:=rs[i].value) (gs:=gs) (s:=s) (i:=i) (m:=a.length) (hz.rr.cs i hi2) hrc hfl (fun c hc=>by have:=c1 c hc; omega) (by omega) (own_lt' ho) rs[i].cells.length 0 k H1 a (by omega) (by omega) (hp.trans a2) a3 (own_pf ho a2) rfl
  have hst:masksOk n (ruleStep n a rs[i].val)=true:=(ruleStep_sub hok ha).ok ha
  obtain ⟨H',d1,d2,d3⟩:=ih (i + 1) fuel H2 (ruleStep n a rs[i].val) (by omega) (by omega) b2 b3 hst
  push_cast at d1
  rw [val_drop rs i hi2,List.foldl_cons]
  refine ⟨H',?_,d2,d3⟩
  simp only [Int.natCast_zero] at b1
  simp (disch:=omega) only [spec_NarrowRules.l2,dt,Za,Zt,Zn,Zo,l0,l1,l2,a1,AV.toS,if_true,b1,wr (n:=(i:Int) + 1),d1]
theorem specNarrowRules_ok {k:Nat} (hk:2000050 ≤ k) {H:Hp} {n:Int} {gs s ms:Sl} {given l:List Int} {rs:List R} (hz:PuzAt H n gs s given rs) (hm:Reads .i64 H ms l) (hl:l.length ≤ 1000) :
  ∃ t H',callF PP orc k spec_NarrowRules.id [.agg [.int .i64 n,.sl 1 gs,.sl 3 s],.sl 1 ms] H=some (.sl 1 t,H')∧H <+: H'∧Own 1 H H' t ((rulesV n given (rs.map R.val) l).map (.int .i64)):=by
 obtain ⟨k,rfl⟩:=Zs k (by omega)
 rw [spec_NarrowRules.call]
 have hn:=hz.n4
 have h1:=specPuzzleValid_ok (show 2000003 ≤ k by omega) hz.n4 hz.rg hz.gl hz.rr hz.rl hz.rc
 rw [puzzle_map] at h1
 have h2:=specMasksValid_any (show 2000000 ≤ k by omega) (n:=n) (by omega) hm hl
 unfold rulesV
 cases e1:puzzleV n given (rs.map R.val) with
 | false=>
  rw [e1] at h1
  rw [iN (by simp)]
  exact ⟨Sl.mk false H.length 0 0,H ++ [some (Blk.mk false [])],by simp only [spec_NarrowRules.f,spec_NarrowRules.j0,dt,df,bt,bf,nt,nf,Za,Zy,Zx,Zt,Zf,Zn,Zz,Zi,Zo,wr,AV.toB,AV.toI,AV.toS,if_true,h1],(List.prefix_append _ _),own_new 1 H [] 0 rfl⟩
 | true=>
  rw [e1] at h1
  cases e2:masksOk n l with
  | false=>
   rw [e2] at h2
   rw [iN (by simp)]
   exact ⟨Sl.mk false H.length 0 0,H ++ [some (Blk.mk false [])],by simp only [spec_NarrowRules.f,spec_NarrowRules.j0,dt,df,bt,bf,nt,nf,Za,Zy,Zx,Zt,Zf,Zn,Zz,Zi,Zo,wr,AV.toB,AV.toI,AV.toS,if_true,h1,h2],(List.prefix_append _ _),own_new 1 H [] 0 rfl⟩
  | true=>
   rw [e2] at h2
   rw [ip ⟨rfl,rfl⟩]
   have h3:=l6Copy_ok (show 1 ≤ k by omega) hm hl
   have hnew:=own_new 1 H (l.map (.int .i64)) l.length (by simp)
   obtain ⟨_,_,q3⟩:=puzzleV_iff e1
   have hrl:=hz.rl
   obtain ⟨H',b1,b2,b3⟩:=Rules_l2 (show 2000040 ≤ k by omega) hz q3 rs.length 0 k (H ++ [some (Blk.mk false (l.map (.int .i64)))]) l (by omega) (by omega) (List.prefix_append _ _) hnew e2
   rw [List.drop_zero] at b3
   refine ⟨_,H',?_,b2,b3⟩
   simp only [Int.natCast_zero] at b1
   simp only [spec_NarrowRules.f,spec_NarrowRules.j0,spec_NarrowRules.j1,dt,df,bt,bf,nt,nf,Za,Zy,Zx,Zt,Zf,Zn,Zz,Zi,Zo,wr,AV.toB,AV.toI,AV.toS,if_true,h1,h2,h3,b1]
theorem l8Same_l0 (rec:Rec) (k:Nat) {H:Hp} {s t:Sl} {x y:List Int} (hs:Reads .i64 H s x) (ht:Reads .i64 H t y) (hl:x.length=y.length) (h1:x.length ≤ 1000) :
  ∀ (j i fuel:Nat),i + j=x.length→j < fuel→spec_l8Same.l0 rec k fuel s t i H=some (.bool (decide (x.drop i=y.drop i)),H):=by
 have hsl:=hs.len
 have htl:=ht.len
 intro j
 induction j with
 | zero=>
  intro i fuel hi hf
  obtain ⟨fuel,rfl⟩:=Zs fuel (by omega)
  rw [List.drop_eq_nil_of_le (show x.length ≤ i by omega),List.drop_eq_nil_of_le (show y.length ≤ i by omega)]
  simp (disch:=omega) only [spec_l8Same.l0,dt,df,bt,bf,nt,nf,Za,Zy,Zx,Zt,Zf,Zn,Zz,Zi,Zo,wr,AV.toB,AV.toI,AV.toS,if_true]
  rfl
 | succ j ih=>
  intro i fuel hi hf
  obtain ⟨fuel,rfl⟩:=Zs fuel (by omega)
  have hx:i < x.length:=by omega
  have hy:i < y.length:=by omega
  have ex:x.drop i=x.getD i 0 :: x.drop (i + 1):=by
   rw [List.drop_eq_getElem_cons hx,List.getD_eq_getElem?_getD,List.getElem?_eq_getElem hx]; rfl
  have ey:y.drop i=y.getD i 0 :: y.drop (i + 1):=by
   rw [List.drop_eq_getElem_cons hy,List.getD_eq_getElem?_getD,List.getElem?_eq_getElem hy]; rfl
  rw [ex,ey]
  by_cases c:x.getD i 0=y.getD i 0
  ·have d1:=ih (i + 1) fuel (by omega) (by omega)
   push_cast at d1
   rw [show decide (x.getD i 0 :: x.drop (i + 1)=y.getD i 0 :: y.drop (i + 1))=decide (x.drop (i + 1)=y.drop (i + 1)) by rw [c]; simp,← d1]
   simp (disch:=omega) only [spec_l8Same.l0,dt,df,bt,bf,nt,nf,Za,Zy,Zx,Zt,Zf,Zn,Zz,Zi,Zo,wr,AV.toB,AV.toI,AV.toS,if_true,rdn hs,rdn ht,nf]
  ·rw [show decide (x.getD i 0 :: x.drop (i + 1)=y.getD i 0 :: y.drop (i + 1))=false from decide_eq_false fun h=>c (List.cons.inj h).1]
   simp (disch:=omega) only [spec_l8Same.l0,dt,df,bt,bf,nt,nf,Za,Zy,Zx,Zt,Zf,Zn,Zz,Zi,Zo,wr,AV.toB,AV.toI,AV.toS,if_true,rdn hs,rdn ht,nt]
theorem l8Same_ok {k:Nat} (hk:2000000 ≤ k) {H:Hp} {s t:Sl} {x y:List Int} (hs:Reads .i64 H s x) (ht:Reads .i64 H t y) (h1:x.length ≤ 1000) (h2:y.length ≤ 1000) :
  callF PP orc k spec_l8Same.id [.sl 1 s,.sl 1 t] H=some (.bool (decide (x=y)),H):=by
 obtain ⟨k,rfl⟩:=Zs k (by omega)
 rw [spec_l8Same.call]
 have hsl:=hs.len
 have htl:=ht.len
 by_cases c:x.length=y.length
 ·have d1:=l8Same_l0 (callF PP orc k) k hs ht c h1 x.length 0 k (by omega) (by omega)
  simp only [Int.natCast_zero,List.drop_zero] at d1
  rw [← d1]
  simp (disch:=omega) only [spec_l8Same.f,dt,df,bt,bf,nt,nf,Za,Zy,Zx,Zt,Zf,Zn,Zz,Zi,Zo,wr,AV.toB,AV.toI,AV.toS,if_true]
 ·rw [decide_eq_false (fun h=>c (congrArg List.length h))]
  simp (disch:=omega) only [spec_l8Same.f,dt,df,bt,bf,nt,nf,Za,Zy,Zx,Zt,Zf,Zn,Zz,Zi,Zo,wr,AV.toB,AV.toI,AV.toS,if_true]
theorem specNarrowBy_ok {k:Nat} (hk:2000060 ≤ k) {H:Hp} {n:Int} {gs s ms:Sl} {given l:List Int} {rs:List R} (hz:PuzAt H n gs s given rs) (hm:Reads .i64 H ms l) (hl:l.length ≤ 1000) (t:Int) :
  ∃ u H',callF PP orc k spec_NarrowBy.id [.agg [.int .i64 n,.sl 1 gs,.sl 3 s],.sl 1 ms,.int .i64 t] H=some (.sl 1 u,H')∧H <+: H'∧Own 1 H H' u ((narrowV n given (rs.map R.val) l t).map (.int .i64)):=by
 obtain ⟨k,rfl⟩:=Zs k (by omega)
 rw [spec_NarrowBy.call]
 have hn:=hz.n4
 have h1:=specPuzzleValid_ok (show 2000003 ≤ k by omega) hz.n4 hz.rg hz.gl hz.rr hz.rl hz.rc
 rw [puzzle_map] at h1
 have h2:=specMasksValid_any (show 2000000 ≤ k by omega) (n:=n) (by omega) hm hl
 unfold narrowV
 cases e1:puzzleV n given (rs.map R.val) with
 | false=>
  rw [e1] at h1
  rw [iN (by simp)]
  exact ⟨Sl.mk false H.length 0 0,H ++ [some (Blk.mk false [])],by simp only [spec_NarrowBy.f,spec_NarrowBy.j0,dt,df,bt,bf,nt,nf,Za,Zy,Zx,Zt,Zf,Zn,Zz,Zi,Zo,wr,AV.toB,AV.toI,AV.toS,if_true,h1],(List.prefix_append _ _),own_new 1 H [] 0 rfl⟩
 | true=>
  rw [e1] at h1
  cases e2:masksOk n l with
  | false=>
   rw [e2] at h2
   rw [iN (by simp)]
   exact ⟨Sl.mk false H.length 0 0,H ++ [some (Blk.mk false [])],by simp only [spec_NarrowBy.f,spec_NarrowBy.j0,dt,df,bt,bf,nt,nf,Za,Zy,Zx,Zt,Zf,Zn,Zz,Zi,Zo,wr,AV.toB,AV.toI,AV.toS,if_true,h1,h2],(List.prefix_append _ _),own_new 1 H [] 0 rfl⟩
  | true=>
   rw [e2] at h2
   rw [ip ⟨rfl,rfl⟩]
   by_cases t1:t=1
   ·obtain ⟨u,H',a1,a2,a3⟩:=specNarrowSingles_ok (show 2000010 ≤ k by omega) (n:=n) (by omega) hm hl
    rw [ip t1]
    exact ⟨u,H',by simp only [spec_NarrowBy.f,spec_NarrowBy.j0,spec_NarrowBy.j1,dt,df,bt,bf,nt,nf,Za,Zy,Zx,Zt,Zf,Zn,Zz,Zi,Zo,wr,AV.toB,AV.toI,AV.toS,if_true,h1,h2,bt t1,a1],a2,a3⟩
   rw [iN t1]
   by_cases t2:t=2
   ·obtain ⟨u,H',a1,a2,a3⟩:=specNarrowHidden_ok (show 2000010 ≤ k by omega) (n:=n) (by omega) hm hl
    rw [ip t2]
    exact ⟨u,H',by simp only [spec_NarrowBy.f,spec_NarrowBy.j0,spec_NarrowBy.j1,dt,df,bt,bf,nt,nf,Za,Zy,Zx,Zt,Zf,Zn,Zz,Zi,Zo,wr,AV.toB,AV.toI,AV.toS,if_true,h1,h2,bf t1,bt t2,a1],a2,a3⟩
   rw [iN t2]
   by_cases t3:t=3
   ·obtain ⟨u,H',a1,a2,a3⟩:=specNarrowPairs_ok (show 2000010 ≤ k by omega) (n:=n) (by omega) hm hl
    rw [ip t3]
    exact ⟨u,H',by simp only [spec_NarrowBy.f,spec_NarrowBy.j0,spec_NarrowBy.j1,dt,df,bt,bf,nt,nf,Za,Zy,Zx,Zt,Zf,Zn,Zz,Zi,Zo,wr,AV.toB,AV.toI,AV.toS,if_true,h1,h2,bf t1,bf t2,bt t3,a1],a2,a3⟩
   rw [iN t3]
   by_cases t4:t=4
   ·obtain ⟨u,H',a1,a2,a3⟩:=specNarrowRules_ok (show 2000050 ≤ k by omega) hz hm hl
    rw [ip t4]
    exact ⟨u,H',by simp only [spec_NarrowBy.f,spec_NarrowBy.j0,spec_NarrowBy.j1,dt,df,bt,bf,nt,nf,Za,Zy,Zx,Zt,Zf,Zn,Zz,Zi,Zo,wr,AV.toB,AV.toI,AV.toS,if_true,h1,h2,bf t1,bf t2,bf t3,bt t4,a1],a2,a3⟩
   rw [iN t4]
   exact ⟨Sl.mk false H.length 0 0,H ++ [some (Blk.mk false [])],by simp only [spec_NarrowBy.f,spec_NarrowBy.j0,spec_NarrowBy.j1,dt,df,bt,bf,nt,nf,Za,Zy,Zx,Zt,Zf,Zn,Zz,Zi,Zo,wr,AV.toB,AV.toI,AV.toS,if_true,h1,h2,bf t1,bf t2,bf t3,bf t4],(List.prefix_append _ _),own_new 1 H [] 0 rfl⟩
def seenC (seen:List Int):List AV:=(List.range 5).map fun (v:Nat)=>.bool (seen.contains (v:Int))
theorem seen_set (seen:List Int) (v:Nat) (hv:v < 5):(seenC seen).take v ++ [.bool true] ++ (seenC seen).drop (v + 1)=seenC ((v:Int) :: seen):=by
 apply List.ext_getElem?
 intro i
 have h0:(seenC seen).length=5:=by simp [seenC]
 have e:(seenC seen).take v ++ [.bool true] ++ (seenC seen).drop (v + 1)=(seenC seen).set v (.bool true):=by
  rw [List.set_eq_take_append_cons_drop,if_pos (by omega)]; simp
 rw [e]
 by_cases hi:i=v
 ·subst hi
  rw [List.getElem?_set_self (by omega)]
  simp [seenC,hv]
 ·rw [List.getElem?_set_ne (by omega)]
  by_cases h5:i < 5
  ·simp [seenC,h5,hi]
   intro e'; omega
  ·rw [List.getElem?_eq_none (by omega),List.getElem?_eq_none (by simp [seenC]; omega)]
theorem reads_ne {H:Hp} {s:Sl} {l:List Int} {k:IntKind} {b:Nat} {seen:List Int} (hr:Reads k H s l) (hl:l ≠ []) (hb:H[b]?=some (some ⟨false,seenC seen⟩)):s.blk ≠ b:=by
 intro e
 have h0:0 < l.length:=List.length_pos_iff.2 hl
 have:=hr.cell 0 h0
 unfold Hp.cell at this
 rw [e,hb] at this
 simp only at this
 have hm:=List.mem_of_getElem? this
 unfold seenC at hm
 obtain ⟨v,_,hv⟩:=List.mem_map.1 hm
 cases hv
theorem But.reads' {b:Nat} {H H':Hp} (h:But b H H') {k:IntKind} {s:Sl} {l:List Int} {seen:List Int} (hb:H[b]?=some (some ⟨false,seenC seen⟩)) (hr:Reads k H s l):Reads k H' s l:=by
 by_cases hl:l=[]
 ·subst hl; exact reads_nil hr.len
 ·exact h.reads (reads_ne hr hl hb) hr
theorem implSquareFits_l1 (rec:Rec) (k:Nat) (L0:Sl→Int→Int→Int→Hp→An) {H0:Hp} {s t:Sl} {g cells:List Int} {n top line:Int} {b:Nat} (hs:Reads .i64 H0 s g)
  (hc:∀ c ∈ cells,0 ≤ c∧c < (g.length:Int)) (hg:∀ v ∈ g,0 ≤ v∧v ≤ 4) (hl:cells.length ≤ 1000) (hline:IntKind.i64.wrap (line + 1)=line + 1) :
  ∀ (j i fuel:Nat) (H:Hp) (seen:List Int),i + j=cells.length→j < fuel→H0 <+: H→Own 1 H0 H (Sl.mk false b 0 5) (seenC seen)→Reads .i64 H t cells →
   ∃ H',H0 <+: H'∧impl_SquareFits.l1 rec k L0 fuel s n b 0 top line t cells.length i H=bif clashL g (cells.drop i) seen then some (.bool false,H') else L0 s n top (line + 1) H':=by
 intro j
 induction j with
 | zero=>
  intro i fuel H seen hi hf hp ho ht
  obtain ⟨fuel,rfl⟩:=Zs fuel (by omega)
  refine ⟨H,hp,?_⟩
  simp [impl_SquareFits.l1,impl_SquareFits.j3,show ¬ i < cells.length by omega,List.drop_eq_nil_of_le (show cells.length ≤ i by omega),clashL,hline]
 | succ j ih=>
  intro i fuel H seen hi hf hp ho ht
  obtain ⟨fuel,rfl⟩:=Zs fuel (by omega)
  have h1:=ht.len
  have h2:i < cells.length:=by omega
  have h3:=reads_at ht i h2
  have h4:=wrs (i:=i) (by omega)
  obtain ⟨c0,c1⟩:=hc _ (List.getElem_mem h2)
  have h5:=gv_at (pf_reads hp hs) c0 c1
  obtain ⟨v0,v1⟩:=hg _ (gv_mem c0 c1)
  rw [List.drop_eq_getElem_cons h2]
  simp only [clashL]
  obtain ⟨v,hv⟩:=Int.eq_ofNat_of_zero_le v0
  rw [hv] at h5 ⊢
  have hv5:v < 5:=by omega
  have hsl:=hs.len
  obtain ⟨H1,a1,a2,a3,a4,a5⟩:=own_sto ho hp v [.bool true] (by simp [seenC]; omega)
  rw [show v + [AV.bool true].length=v + 1 from rfl,seen_set seen v hv5] at a3
  simp only [Nat.zero_add] at a1
  obtain ⟨H',b1,b2⟩:=ih (i + 1) fuel H1 ((v:Int) :: seen) (by omega) (by omega) a2 a3 (a4.reads' ho.get ht)
  rw [show ((i + 1:Nat):Int)=(i:Int) + 1 by omega] at b2
  have q1:((i:Int) < (t.len:Int)):=by omega
  have q2:((i:Int) < (cells.length:Int)):=by omega
  have q0:(0:Int) ≤ (i:Int):=by omega
  have z0:(0:Int) ≤ (v:Int):=by omega
  have z3:(v:Int) < ((5:Nat):Int):=by omega
  have c1':cells[i] < (s.len:Int):=by omega
  have hld:ldB H b v=some (seen.contains (v:Int)):=by
   have:=own_cell ho v
   simp only [Nat.zero_add] at this
   unfold ldB
   rw [this]
   simp [seenC,hv5,AV.toB]
  by_cases hp':0 < v
  ·have z1:((v:Int) > 0):=by omega
   have z2:(0:Int) < (v:Int):=z1
   cases hse':seen.contains (v:Int) with
   | true=>
    rw [hse'] at hld
    refine ⟨H,hp,?_⟩
    simp only [impl_SquareFits.l1,impl_SquareFits.j2,impl_SquareFits.j4,impl_SquareFits.j5,q0,q1,q2,c0,c1',z0,z1,z2,z3,decide_true,Za,Zt,Zf,Zn,Nat.mul_one,Nat.zero_add,h3,h5,Zo,hld,Bool.true_or]
   | false=>
    rw [hse'] at hld
    refine ⟨H',b1,?_⟩
    simp only [impl_SquareFits.l1,impl_SquareFits.j2,impl_SquareFits.j4,impl_SquareFits.j5,q0,q1,q2,c0,c1',z0,z1,z2,z3,decide_true,Za,Bool.and_false,Zt,Zf,Zn,Nat.mul_one,Nat.zero_add,h3,h5,Zo,hld,Bool.false_or,a1,h4,b2]
  ·have z1:¬ ((v:Int) > 0):=by omega
   have z2:¬ (0:Int) < (v:Int):=z1
   refine ⟨H',b1,?_⟩
   simp only [impl_SquareFits.l1,impl_SquareFits.j2,impl_SquareFits.j4,impl_SquareFits.j5,q0,q1,q2,c0,c1',z0,z1,z2,z3,decide_true,decide_false,Za,Bool.false_and,Zt,Zf,Zn,Nat.mul_one,Nat.zero_add,h3,h5,Zo,Bool.false_or,a1,h4,b2]
theorem implSquareFits_l0 {k:Nat} (hk:2000000 ≤ k) {H0:Hp} {s:Sl} {g:List Int} {n:Int} (hs:Reads .i64 H0 s g) (hg:gridOk g n=true) :
  ∀ (j fuel line:Nat) (H:Hp),(line:Int) + j=2 * n→j < fuel→H0 <+: H →
   ∃ H',impl_SquareFits.l0 (callF PP orc k) k fuel s n (2 * n) line H=some (.bool (!clashFrom g n line j),H')∧H0 <+: H':=by
 obtain ⟨⟨n1,n2⟩,n3,n4⟩:=(gridOk_iff g n).1 hg
 intro j
 induction j with
 | zero=>
  intro fuel line H hl hf hp
  obtain ⟨fuel,rfl⟩:=Zs fuel (by omega)
  refine ⟨H,?_,hp⟩
  have:¬ ((line:Int) < 2 * n):=by omega
  simp only [impl_SquareFits.l0,this,decide_false,Zf,clashFrom,Zx]
 | succ j ih=>
  intro fuel line H hl hf hp
  obtain ⟨fuel,rfl⟩:=Zs fuel (by omega)
  have q1:((line:Int) < 2 * n):=by omega
  have hnew:=own_base (own_new 1 H [.bool false,.bool false,.bool false,.bool false,.bool false] 5 rfl) hp
  obtain ⟨H1,a1,a2,a3,a4,a5⟩:=own_sto hnew (hp.trans (List.prefix_append _ _)) 0 [.bool false,.bool false,.bool false,.bool false,.bool false] (by simp)
  obtain ⟨t,H2,e1,e2,e3⟩:=implLineCells_ok hk n line H1
  have hseen:Own 1 H0 H1 (Sl.mk false H.length 0 5) (seenC []):=a3
  obtain ⟨H3,b1,b2⟩:=implSquareFits_l1 (callF PP orc k) k (impl_SquareFits.l0 (callF PP orc k) k fuel) (line:=line) (n:=n) (top:=2 * n) hs (fun c hc=>by rw [n3]; exact lineCells_mem hc) (fun v hv=>⟨(n4 v hv).1,by have:=(n4 v hv).2; omega⟩)
   (by have:=lineCells_len n line; omega) (wr (by omega) (by omega)) (lineCells n line).length 0 k H2 [] (by omega) (by have:=lineCells_len n line; omega) (a2.trans e2) (own_pf hseen e2) e3
  simp only [List.drop_zero,Int.natCast_zero] at b2
  simp only [Nat.zero_add] at a1
  have hlen:=e3.len
  have a1':(H ++ [some (Blk.mk false [.bool false,.bool false,.bool false,.bool false,.bool false])]).sto H.length 0 [.bool false,.bool false,.bool false,.bool false,.bool false]=some H1:=a1
  cases hc:clashL g (lineCells n line) [] with
  | true=>
   refine ⟨H3,?_,b1⟩
   simp only [hc,Zt] at b2
   simp only [impl_SquareFits.l0,q1,decide_true,Zt,a1',e1,Zo,AV.toS,if_true,clashFrom,hc,Bool.true_or,Zy,hlen]
   exact b2
  | false=>
   obtain ⟨H',c1,c2⟩:=ih fuel (line + 1) H3 (by omega) (by omega) b1
   push_cast at c1
   refine ⟨H',?_,c2⟩
   simp only [hc,Zf] at b2
   simp only [impl_SquareFits.l0,q1,decide_true,Zt,a1',e1,Zo,AV.toS,if_true,clashFrom,hc,Bool.false_or,hlen]
   exact b2.trans c1
theorem implSquareFits_ok {k:Nat} (hk:2000001 ≤ k) {H:Hp} {s:Sl} {g:List Int} (n:Int) (hs:Reads .i64 H s g) (hl:g.length ≤ 1048576) :
  ∃ H',callF PP orc k impl_SquareFits.id [.sl 1 s,.int .i64 n] H=some (.bool (squareFits g n),H')∧H <+: H':=by
 obtain ⟨k,rfl⟩:=Zs k (by omega)
 rw [impl_SquareFits.call]
 have h1:=implGridValid_ok (show 2000000 ≤ k by omega) hs hl n
 cases hg:gridOk g n with
 | true=>
  obtain ⟨⟨n1,n2⟩,n3,n4⟩:=(gridOk_iff g n).1 hg
  have hw:IntKind.i64.wrap (2 * n)=2 * n:=wr (by omega) (by omega)
  obtain ⟨H',a1,a2⟩:=implSquareFits_l0 (show 2000000 ≤ k by omega) hs hg (2 * n).toNat k 0 H (by omega) (by omega) (List.prefix_refl _)
  refine ⟨H',?_,a2⟩
  simp only [impl_SquareFits.f,h1,hg,Zo,AV.toB,Zy,Zf,hw,squareFits,Bool.true_and]
  exact a1
 | false=>exact ⟨H,by simp only [impl_SquareFits.f,h1,hg,Zo,AV.toB,Zx,Zt,squareFits,Bool.false_and],List.prefix_refl _⟩
end Go.Proofs.Ytchliocobgkmbaa.Rp
