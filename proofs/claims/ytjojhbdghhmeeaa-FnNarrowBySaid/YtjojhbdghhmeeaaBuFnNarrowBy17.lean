/- Texts for the row of the law FnNarrowBy, part 17: the plain machine, the program's functions on it, what they come to. No conditions. -/
import Derived.Test.YtjojhbdghhmeeaaBuFnNarrowBy16
import Derived.Test.YtjojhbdghhmeeaaBuFnNarrowBy15
import Derived.Test.YtjojhbdghhmeeaaBuFnNarrowBy9
import Derived.Test.YtjojhbdghhmeeaaBuFnNarrowBy10
import Derived.Test.YtjojhbdghhmeeaaBuFnNarrowBy11
import Derived.Test.YtjojhbdghhmeeaaBuFnNarrowBy13
import Derived.Test.YtjojhbdghhmeeaaBuFnNarrowBy12
set_option linter.unusedVariables false
set_option linter.unusedSimpArgs false
namespace Go.Proofs.Ytjojhbdghhmeeaa.Rp
open Go Go.RowKit Go.Proofs.Ytjojhbdghhmeeaa.Ab
theorem row_ok {N i kk:Nat} (hN:N=2 ∨ N=3 ∨ N=4) (hi:i ≤ 100) (hk:kk ≤ 100):IntKind.i64.wrap (IntKind.i64.wrap (IntKind.i64.wrap ((i:Int).tdiv (N:Int)) * (N:Int)) + (kk:Int))=((i / N * N + kk:Nat):Int)∧IntKind.i64.wrap (IntKind.i64.wrap ((kk:Int) * (N:Int)) + (i:Int).tmod (N:Int))=((kk * N + i % N:Nat):Int):=by
 rw [tdivN,tmodN]
 have d:=Nat.div_le_self i N
 have m:i % N < N:=Nat.mod_lt _ (by omega)
 rcases hN with rfl | rfl | rfl
 ·rw [wr (n:=((i / 2:Nat):Int)) (by omega) (by omega),wr (n:=((i / 2:Nat):Int) * ((2:Nat):Int)) (by omega) (by omega),wr (n:=((i / 2:Nat):Int) * ((2:Nat):Int) + (kk:Int)) (by omega) (by omega),wr (n:=(kk:Int) * ((2:Nat):Int)) (by omega) (by omega),wr (n:=(kk:Int) * ((2:Nat):Int) + ((i % 2:Nat):Int)) (by omega) (by omega)]
  constructor <;> (push_cast; omega)
 ·rw [wr (n:=((i / 3:Nat):Int)) (by omega) (by omega),wr (n:=((i / 3:Nat):Int) * ((3:Nat):Int)) (by omega) (by omega),wr (n:=((i / 3:Nat):Int) * ((3:Nat):Int) + (kk:Int)) (by omega) (by omega),wr (n:=(kk:Int) * ((3:Nat):Int)) (by omega) (by omega),wr (n:=(kk:Int) * ((3:Nat):Int) + ((i % 3:Nat):Int)) (by omega) (by omega)]
  constructor <;> (push_cast; omega)
 ·rw [wr (n:=((i / 4:Nat):Int)) (by omega) (by omega),wr (n:=((i / 4:Nat):Int) * ((4:Nat):Int)) (by omega) (by omega),wr (n:=((i / 4:Nat):Int) * ((4:Nat):Int) + (kk:Int)) (by omega) (by omega),wr (n:=(kk:Int) * ((4:Nat):Int)) (by omega) (by omega),wr (n:=(kk:Int) * ((4:Nat):Int) + ((i % 4:Nat):Int)) (by omega) (by omega)]
  constructor <;> (push_cast; omega)
theorem peer_iff {N x i:Nat} (hN:N=2 ∨ N=3 ∨ N=4) (hx:x < N * N) (hi:i < N * N):(∃ u,u < N∧(x=i / N * N + u ∨ x=u * N + i % N)∧x ≠ i) ↔ peer N x i:=by
 unfold peer
 constructor
 ·rintro ⟨u,hu,h,hne⟩
  refine ⟨hne,?_⟩
  rcases hN with rfl | rfl | rfl <;> omega
 ·rintro ⟨hne,h⟩
  rcases h with h | h
  ·refine ⟨x % N,Nat.mod_lt _ (by omega),.inl ?_,hne⟩
   rcases hN with rfl | rfl | rfl <;> omega
  ·refine ⟨x / N,?_,.inr ?_,hne⟩
   ·rcases hN with rfl | rfl | rfl <;> omega
   ·rcases hN with rfl | rfl | rfl <;> omega
theorem iSing_l4 (rec:Rec) (k:Nat) (L0:Int→Sl→Sl→Int→Int→Hp→An) (L2:Int→Sl→Int→Int→Sl→Int→Int→Int→Int→Hp→An) {H0 Hb:Hp} {n x18 x19 x27 x28 m:Int} {i:Nat} {t xs x17:Sl} {l cs:List Int} (hm:M m) (hcl:cs.length ≤ 10) (hin:∀ c ∈ cs,0 ≤ c∧c < (l.length:Int)) (hl:l.length ≤ 100) (htb:t.blk < Hb.length) :
  ∀ (j q fuel:Nat) (H:Hp) (a:List Int) (P:Nat→Nat→Prop),q + j=cs.length→j < fuel→H0 <+: H→Own 1 Hb H xs (cs.map (.int .i64))→Own 1 H0 H t (a.map (.int .i64))→Sub l a P →
   ∃ H' a',impl_NarrowSingles.l4 rec k L0 L2 fuel n t i m x17 x18 x19 x27 x28 xs (cs.length:Int) q H=L2 n t i m x17 x18 x19 x27 (IntKind.i64.wrap (x28 + 1)) H'∧H0 <+: H'∧Own 1 H0 H' t (a'.map (.int .i64))∧Adv t.blk H H'∧Sub l a' (fun x v=>P x v ∨ ∃ u,q ≤ u∧u < cs.length∧(x:Int)=cs.getD u 0∧x ≠ i∧has m v=true):=by
 intro j
 induction j with
 | zero=>
  intro q fuel H a P hq hf hp hx ho hs
  obtain ⟨fuel,rfl⟩:=Zs fuel (by omega)
  refine ⟨H,a,?_,hp,ho,Adv.refl _ _,hs.congr fun x v hx=>⟨.inl,by rintro (h | ⟨u,h1,h2,_⟩); exact h; omega⟩⟩
  simp (disch:=omega) only [impl_NarrowSingles.l4,impl_NarrowSingles.j6,df,Zf]
 | succ j ih=>
  intro q fuel H a P hq hf hp hx ho hs
  obtain ⟨fuel,rfl⟩:=Zs fuel (by omega)
  have hq2:q < cs.length:=by omega
  obtain ⟨c0,c1⟩:=hin _ (mem_getD hq2)
  have hal:=hs.len
  have htl:=(own_reads ho).len
  have hxl:=(own_reads hx).len
  have hrx:=rdn (own_reads hx) hq2
  obtain ⟨c,hc⟩:=Int.eq_ofNat_of_zero_le c0
  rw [hc] at hrx c1
  by_cases e:c=i
  ·obtain ⟨H',a',b1,b2,b3,b4,b5⟩:=ih (q + 1) fuel H a P (by omega) (by omega) hp hx ho hs
   push_cast at b1
   refine ⟨H',a',?_,b2,b3,b4,b5.congr fun x v hxl=>?_⟩
   ·simp (disch:=omega) only [impl_NarrowSingles.l4,impl_NarrowSingles.j5,dt,nf,Za,Zt,Zf,Zn,Zo,hrx,wr (n:=(q:Int) + 1),b1]
   ·constructor
    ·rintro (h | ⟨u,h1,h2⟩)
     ·exact .inl h
     ·exact .inr ⟨u,by omega,h2⟩
    ·rintro (h | ⟨u,h1,h2,h3,h4,h5⟩)
     ·exact .inl h
     ·refine .inr ⟨u,?_,h2,h3,h4,h5⟩
      by_cases eu:u=q
      ·subst eu; rw [hc] at h3; omega
      ·omega
  ·obtain ⟨H1,a1,a2,a3,a4⟩:=own_set1 ho hp c (by omega) (mSub (a.getD c 0) m)
   obtain ⟨H',a',b1,b2,b3,b4,b5⟩:=ih (q + 1) fuel H1 _ _ (by omega) (by omega) a2 (a4.own htb hx) a3 (hs.step c (by omega) hm)
   push_cast at b1
   refine ⟨H',a',?_,b2,b3,a4.trans b4,b5.congr fun x v hxl=>?_⟩
   ·simp (disch:=omega) only [impl_NarrowSingles.l4,impl_NarrowSingles.j5,dt,nt,Za,Zt,Zn,Zo,hrx,rdn (own_reads ho),m_sub (hs.ms.at c) hm,a1,wr (n:=(q:Int) + 1),b1]
   ·constructor
    ·rintro ((h | ⟨h1,h2⟩) | ⟨u,h1,h2⟩)
     ·exact .inl h
     ·exact .inr ⟨q,Nat.le_refl _,hq2,by rw [hc,h1],by omega,h2⟩
     ·exact .inr ⟨u,by omega,h2⟩
    ·rintro (h | ⟨u,h1,h2,h3,h4,h5⟩)
     ·exact .inl (.inl h)
     ·by_cases eu:u=q
      ·subst eu; rw [hc] at h3; exact .inl (.inr ⟨by omega,h5⟩)
      ·exact .inr ⟨u,by omega,h2,h3,h4,h5⟩
theorem iSing_l2 (rec:Rec) (k:Nat) (hk:100 ≤ k) (L0:Int→Sl→Sl→Int→Int→Hp→An) {H0:Hp} {N i:Nat} {x18 m:Int} {t x17:Sl} {l:List Int} (hN:N=2 ∨ N=3 ∨ N=4) (hl:l.length=N * N) (hi:i < l.length) (hm:M m) :
  ∀ (j kk fuel:Nat) (H:Hp) (a:List Int) (P:Nat→Nat→Prop),kk + j=N→j < fuel→H0 <+: H→Own 1 H0 H t (a.map (.int .i64))→Sub l a P →
   ∃ H' a',impl_NarrowSingles.l2 rec k L0 fuel (N:Int) t i m x17 x18 i (N:Int) kk H=L0 (N:Int) t x17 x18 ((i:Int) + 1) H'∧H0 <+: H'∧Own 1 H0 H' t (a'.map (.int .i64))∧Sub l a' (fun x v=>P x v ∨ ∃ u,kk ≤ u∧u < N∧(x=i / N * N + u ∨ x=u * N + i % N)∧x ≠ i∧has m v=true):=by
 have hl16:l.length ≤ 16:=by rcases hN with rfl | rfl | rfl <;> omega
 intro j
 induction j with
 | zero=>
  intro kk fuel H a P hq hf hp ho hs
  obtain ⟨fuel,rfl⟩:=Zs fuel (by omega)
  refine ⟨H,a,?_,hp,ho,hs.congr fun x v hx=>⟨.inl,by rintro (h | ⟨u,h1,h2,_⟩); exact h; omega⟩⟩
  simp (disch:=omega) only [impl_NarrowSingles.l2,impl_NarrowSingles.j1,df,Zf,wr (n:=(i:Int) + 1)]
 | succ j ih=>
  intro kk fuel H a P hq hf hp ho hs
  obtain ⟨fuel,rfl⟩:=Zs fuel (by omega)
  obtain ⟨r1,r2⟩:=row_ok (i:=i) (kk:=kk) hN (by omega) (by omega)
  have q1:H <+: H ++ [some (Blk.mk false (([((i / N * N + kk:Nat):Int),((kk * N + i % N:Nat):Int)]:List Int).map (.int .i64)))]:=List.prefix_append _ _
  have hnew:=own_new 1 H (([((i / N * N + kk:Nat):Int),((kk * N + i % N:Nat):Int)]:List Int).map (.int .i64)) 2 rfl
  obtain ⟨H1,a1,b1,b2,b3,b4,b5⟩:=iSing_l4 rec k L0 (impl_NarrowSingles.l2 rec k L0 fuel) (n:=(N:Int)) (x17:=x17) (x18:=x18) (x19:=(i:Int)) (x27:=(N:Int)) (x28:=(kk:Int)) (i:=i) hm (cs:=[((i / N * N + kk:Nat):Int),((kk * N + i % N:Nat):Int)]) (l:=l) (by simp) (fun c hc=>by
   simp only [List.mem_cons,List.not_mem_nil,or_false] at hc
   rcases hN with rfl | rfl | rfl <;> omega) (by omega) (own_lt' ho) 2 0 k (H ++ [some (Blk.mk false (([((i / N * N + kk:Nat):Int),((kk * N + i % N:Nat):Int)]:List Int).map (.int .i64)))]) a P (by simp) (by omega) (hp.trans q1) hnew (own_pf ho q1) hs
  obtain ⟨H',a',d1,d2,d3,d4⟩:=ih (kk + 1) fuel H1 a1 _ (by omega) (by omega) b2 b3 b5
  push_cast at d1
  refine ⟨H',a',?_,d2,d3,d4.congr fun x v hxl=>?_⟩
  ·simp only [List.map_cons,List.map_nil,Zl,Zm,Int.natCast_zero] at b1
   simp (disch:=omega) only [impl_NarrowSingles.l2,dt,Zt,iN (show ¬ ((N:Int)=0) by omega),r1,r2]
   refine Eq.trans b1 ?_
   rw [wr (n:=(kk:Int) + 1) (by omega) (by omega)]
   exact d1
  ·constructor
   ·rintro ((h | ⟨u,h1,h2,h3,h4⟩) | ⟨u,h1,h2⟩)
    ·exact .inl h
    ·have:u=0 ∨ u=1:=by simp at h2; omega
     rcases this with rfl | rfl
     ·exact .inr ⟨kk,Nat.le_refl _,by omega,.inl (by simpa using Int.ofNat_inj.1 h3),h4⟩
     ·exact .inr ⟨kk,Nat.le_refl _,by omega,.inr (by simpa using Int.ofNat_inj.1 h3),h4⟩
    ·exact .inr ⟨u,by omega,h2⟩
   ·rintro (h | ⟨u,h1,h2,h3,h4⟩)
    ·exact .inl (.inl h)
    ·by_cases eu:u=kk
     ·subst eu
      rcases h3 with h3 | h3
      ·exact .inl (.inr ⟨0,by omega,by simp,by rw [h3]; rfl,h4⟩)
      ·exact .inl (.inr ⟨1,by omega,by simp,by rw [h3]; rfl,h4⟩)
     ·exact .inr ⟨u,by omega,h2,h3,h4⟩
theorem iSing_l0 {k:Nat} (hk:2000000 ≤ k) {H0:Hp} {ms t:Sl} {l:List Int} {N:Nat} {n:Int} (hN:N=2 ∨ N=3 ∨ N=4) (hnN:n=(N:Int)) (hm:Reads .i64 H0 ms l) (hv:masksOk n l=true) (hll:l.length=N * N) :
  ∀ (j i fuel:Nat) (H:Hp) (a:List Int) (P:Nat→Nat→Prop),i + j=l.length→j < fuel→H0 <+: H→Own 1 H0 H t (a.map (.int .i64))→Sub l a P →
   ∃ H' a',impl_NarrowSingles.l0 (callF PP orc k) k fuel (N:Int) t ms (l.length:Int) i H=some (.sl 1 t,H')∧H0 <+: H'∧Own 1 H0 H' t (a'.map (.int .i64))∧Sub l a' (fun x v=>P x v ∨ ∃ q,i ≤ q∧q < l.length∧peer N x q∧single (l.getD q 0)=true∧has (l.getD q 0) v=true):=by
 have hml:=hm.len
 have hM:=masks_M hv
 have hl16:l.length ≤ 16:=by rcases hN with rfl | rfl | rfl <;> omega
 intro j
 induction j with
 | zero=>
  intro i fuel H a P hi hf hp ho hs
  obtain ⟨fuel,rfl⟩:=Zs fuel (by omega)
  refine ⟨H,a,?_,hp,ho,hs.congr fun x v hx=>⟨.inl,by rintro (h | ⟨q,h1,h2,_⟩); exact h; omega⟩⟩
  simp (disch:=omega) only [impl_NarrowSingles.l0,impl_NarrowSingles.j3,df,Zf]
 | succ j ih=>
  intro i fuel H a P hi hf hp ho hs
  obtain ⟨fuel,rfl⟩:=Zs fuel (by omega)
  have hi2:i < l.length:=by omega
  have hrd:=pf_reads hp hm
  have h1:=onlyValue_ok hk (masks_at hv hi2) H
  obtain ⟨o1,o2⟩:=oneOf_single (masks_at hv hi2)
  cases es:single (l.getD i 0) with
  | true=>
   have h0:=(o2 es).2
   obtain ⟨H2,a',b1,b2,b3,b4⟩:=iSing_l2 (callF PP orc k) k (by omega) (impl_NarrowSingles.l0 (callF PP orc k) k fuel) (x17:=ms) (x18:=(l.length:Int)) hN hll hi2 (hM.at i) N 0 k H a P (by omega) (by omega) hp ho hs
   obtain ⟨H',a'',d1,d2,d3,d4⟩:=ih (i + 1) fuel H2 a' _ (by omega) (by omega) b2 b3 b4
   push_cast at d1
   refine ⟨H',a'',?_,d2,d3,d4.congr fun x v hx=>?_⟩
   ·simp only [Int.natCast_zero] at b1
    simp (disch:=omega) only [impl_NarrowSingles.l0,dt,bf,Za,Zt,Zf,Zn,Zo,AV.toI,if_true,rdn hrd,h1,b1,d1]
   ·constructor
    ·rintro ((h | ⟨u,_,h2,h3,h4,h5⟩) | ⟨q,h1,h2⟩)
     ·exact .inl h
     ·exact .inr ⟨i,Nat.le_refl _,hi2,(peer_iff hN (by omega) (by omega)).1 ⟨u,h2,h3,h4⟩,es,h5⟩
     ·exact .inr ⟨q,by omega,h2⟩
    ·rintro (h | ⟨q,h1,h2,h3,h4,h5⟩)
     ·exact .inl (.inl h)
     ·by_cases e:q=i
      ·subst e
       obtain ⟨u,u1,u2,u3⟩:=(peer_iff hN (by omega) (by omega)).2 h3
       exact .inl (.inr ⟨u,by omega,u1,u2,u3,h5⟩)
      ·exact .inr ⟨q,by omega,h2,h3,h4,h5⟩
  | false=>
   have h0:=o1.2 es
   obtain ⟨H',a'',d1,d2,d3,d4⟩:=ih (i + 1) fuel H a P (by omega) (by omega) hp ho hs
   push_cast at d1
   refine ⟨H',a'',?_,d2,d3,d4.congr fun x v hx=>?_⟩
   ·simp (disch:=omega) only [impl_NarrowSingles.l0,impl_NarrowSingles.j1,dt,bt,Za,Zt,Zf,Zn,Zo,AV.toI,if_true,rdn hrd,h1,wr (n:=(i:Int) + 1),d1]
   ·constructor
    ·rintro (h | ⟨q,h1,h2⟩)
     ·exact .inl h
     ·exact .inr ⟨q,by omega,h2⟩
    ·rintro (h | ⟨q,h1,h2,h3,h4,h5⟩)
     ·exact .inl h
     ·refine .inr ⟨q,?_,h2,h3,h4,h5⟩
      by_cases e:q=i
      ·subst e; rw [es] at h4; cases h4
      ·omega
theorem implNarrowSingles_ok {k:Nat} (hk:2000010 ≤ k) {H:Hp} {ms:Sl} {l:List Int} {n:Int} (hb:-1 ≤ n∧n ≤ 5) (hm:Reads .i64 H ms l) (hnn:ms.nil=false) (hl:l.length ≤ 1000) (hr:∀ m ∈ l,-2 ≤ m∧m ≤ 63) :
  ∃ t H',callF PP orc k impl_NarrowSingles.id [.sl 1 ms,.int .i64 n] H=some (.sl 1 t,H')∧H <+: H'∧NilOr H H' t (singlesV n l):=by
 obtain ⟨k,rfl⟩:=Zs k (by omega)
 rw [impl_NarrowSingles.call]
 have h1:=implMasksValid_ok (show 2000000 ≤ k by omega) hb hm hl hr
 have hml:=hm.len
 unfold singlesV
 cases hv:masksOk n l with
 | false=>
  rw [hv] at h1
  rw [iN (by simp)]
  exact ⟨Sl.none,H,by simp only [impl_NarrowSingles.f,dt,df,bt,bf,nt,nf,Za,Zy,Zx,Zt,Zf,Zn,Zz,Zi,Zo,wr,AV.toB,AV.toI,AV.toS,if_true,h1],(List.prefix_refl _),.inl ⟨rfl,rfl⟩⟩
 | true=>
  rw [hv] at h1
  rw [ip rfl]
  obtain ⟨l4,l16,lN,hN,n2,n4⟩:=masks_len hv
  have hM:=masks_M hv
  have h2:=Clone_own (show 1 ≤ k by omega) hm hnn hl
  have hnew:=own_new 1 H (l.map (.int .i64)) l.length (by simp)
  obtain ⟨H',a',b1,b2,b3,b4⟩:=iSing_l0 (show 2000000 ≤ k by omega) (N:=n.toNat) (by omega) hN hm hv lN l.length 0 k (H ++ [some (Blk.mk false (l.map (.int .i64)))]) l _ (by omega) (by omega) (List.prefix_append _ _) hnew (Sub.refl hM)
  rw [← hN] at b1
  have e:a'=subAll l (PS n.toNat l):=(b4.congr fun x v hx=>(show _ ↔ PS n.toNat l x v from ⟨by rintro (h | ⟨q,_,h⟩); exact h.elim; exact ⟨q,h⟩,fun ⟨q,h⟩=>.inr ⟨q,by omega,h⟩⟩)).eq hM
  subst e
  refine ⟨_,H',?_,b2,.inr b3⟩
  simp only [Int.natCast_zero] at b1
  simp only [impl_NarrowSingles.f,dt,df,bt,bf,nt,nf,Za,Zy,Zx,Zt,Zf,Zn,Zz,Zi,Zo,wr,AV.toB,AV.toI,AV.toS,if_true,h1,h2,hml,b1]
theorem iHid_l3 (rec:Rec) (k:Nat) (L0:Sl→Int→Sl→Int→Int→Hp→An) (L1:Sl→Int→Sl→Int→Int→Int→Int→Hp→An) {H:Hp} {ms t cs:Sl} {l cells:List Int} {n line x19 x20:Int} {v:Nat} (hm:Reads .i64 H ms l) (hc:Reads .i64 H cs cells) (hcl:cells.length ≤ 10) (hin:∀ c ∈ cells,0 ≤ c∧c.toNat < l.length∧c < (l.length:Int)) (hM:Ms l) (hv:1 ≤ v∧v ≤ 4) :
  ∀ (j q fuel:Nat) (many at':Int),q + j=cells.length→j < fuel→0 ≤ many→many ≤ q →
   ∃ at2,impl_NarrowHidden.l3 rec k L0 L1 fuel ms n t line v at' many x19 x20 cs (cells.length:Int) q H=impl_NarrowHidden.j6 rec k L0 L1 ms n t line v at2 (many + ((cells.drop q).filter fun c=>has (l.getD c.toNat 0) v).length) x19 x20 H∧(∀ c,many=0→(cells.drop q).filter (fun c=>has (l.getD c.toNat 0) v)=[c]→at2=c)∧((cells.drop q).filter (fun c=>has (l.getD c.toNat 0) v)=[]→at2=at'):=by
 have hml:=hm.len
 have hcs:=hc.len
 intro j
 induction j with
 | zero=>
  intro q fuel many at' hq hf h0 h1
  obtain ⟨fuel,rfl⟩:=Zs fuel (by omega)
  rw [List.drop_eq_nil_of_le (by omega)]
  refine ⟨at',?_,fun c _ h=>(by cases h),fun _=>rfl⟩
  simp (disch:=omega) only [impl_NarrowHidden.l3,dt,df,bt,bf,nt,nf,Za,Zy,Zx,Zt,Zf,Zn,Zz,Zi,Zo,wr,AV.toB,AV.toI,AV.toS,if_true,List.filter_nil,Zm,Int.natCast_zero,Int.add_zero]
 | succ j ih=>
  intro q fuel many at' hq hf h0 h1
  obtain ⟨fuel,rfl⟩:=Zs fuel (by omega)
  have hq2:q < cells.length:=by omega
  obtain ⟨c0,c1,c2⟩:=hin _ (mem_getD hq2)
  have hd:cells.drop q=cells.getD q 0 :: cells.drop (q + 1):=by
   rw [List.drop_eq_getElem_cons hq2,List.getD_eq_getElem?_getD,List.getElem?_eq_getElem hq2]; rfl
  rw [hd,List.filter_cons]
  have hb:=m_bit' (v:=(v:Int)) (hM.at (cells.getD q 0).toNat) (by omega) (by omega)
  rw [Int.toNat_natCast] at hb
  cases hh:has (l.getD (cells.getD q 0).toNat 0) v with
  | true=>
   rw [hh] at hb
   obtain ⟨at2,a1,a2,a3⟩:=ih (q + 1) fuel (many + 1) (cells.getD q 0) (by omega) (by omega) (by omega) (by omega)
   push_cast at a1
   rw [if_pos rfl,List.length_cons]
   refine ⟨at2,?_,fun c hm0 he=>?_,fun h=>by cases h⟩
   ·push_cast
    rw [show many + ((((cells.drop (q + 1)).filter fun c=>has (l.getD c.toNat 0) v).length:Int) + 1)=many + 1 + (((cells.drop (q + 1)).filter fun c=>has (l.getD c.toNat 0) v).length:Int) by omega,← a1]
    simp (disch:=omega) only [impl_NarrowHidden.l3,impl_NarrowHidden.j5,dt,df,Za,Zt,Zn,Zo,rdn hc,rdn hm,iN,hb,wr (n:=many + 1),wr (n:=(q:Int) + 1)]
   ·rw [List.cons.injEq] at he
    rw [a3 he.2]; exact he.1
  | false=>
   rw [hh] at hb
   obtain ⟨at2,a1,a2,a3⟩:=ih (q + 1) fuel many at' (by omega) (by omega) h0 (by omega)
   push_cast at a1
   rw [if_neg (by simp)]
   refine ⟨at2,?_,a2,a3⟩
   rw [← a1]
   simp (disch:=omega) only [impl_NarrowHidden.l3,impl_NarrowHidden.j5,dt,df,Za,Zt,Zf,Zn,Zo,rdn hc,rdn hm,iN,hb,wr (n:=(q:Int) + 1)]
theorem iHid_l1 {k:Nat} (hk:2000000 ≤ k) (L0:Sl→Int→Sl→Int→Int→Hp→An) {H0:Hp} {ms t:Sl} {l:List Int} {n x19:Int} {line:Nat} (hmk:masksOk n l=true) (hm:Reads .i64 H0 ms l) (hline:(line:Int) < 2 * n) :
  ∀ (j v fuel:Nat) (H:Hp) (a:List Int) (P:Nat→Nat→Prop),(v:Int) + j=n + 1→1 ≤ v→j < fuel→H0 <+: H→Own 1 H0 H t (a.map (.int .i64))→Sub l a P →
   ∃ H' a',impl_NarrowHidden.l1 (callF PP orc k) k L0 fuel ms n t line v x19 line H=L0 ms n t x19 ((line:Int) + 1) H'∧H0 <+: H'∧Own 1 H0 H' t (a'.map (.int .i64))∧Sub l a' (fun x w=>P x w ∨ ∃ u:Nat,v ≤ u∧(u:Int) ≤ n∧lineHas n l line u=[(x:Int)]∧w ≠ u):=by
 obtain ⟨l4,l16,lN,hN,n2,n4⟩:=masks_len hmk
 have hM:=masks_M hmk
 have hlc:=lineCells_len n line
 intro j
 induction j with
 | zero=>
  intro v fuel H a P hv hv1 hf hp ho hs
  obtain ⟨fuel,rfl⟩:=Zs fuel (by omega)
  refine ⟨H,a,?_,hp,ho,hs.congr fun x w hx=>⟨.inl,by rintro (h | ⟨u,h1,h2,_⟩); exact h; omega⟩⟩
  simp (disch:=omega) only [impl_NarrowHidden.l1,impl_NarrowHidden.j4,df,Zf,wr (n:=(line:Int) + 1)]
 | succ j ih=>
  intro v fuel H a P hv hv1 hf hp ho hs
  obtain ⟨fuel,rfl⟩:=Zs fuel (by omega)
  have hal:=hs.len
  have htl:t.len=a.length:=by have:=ho.len; simpa using this
  obtain ⟨cs,Hc,a1,a2,a3⟩:=implLineCells_own hk (n:=n) (line:=(line:Int)) ⟨by omega,by omega⟩ ⟨by omega,hline⟩ H
  have hpc:=hp.trans a2
  have hoc:=own_pf ho a2
  have hcl:=(own_reads a3).len
  obtain ⟨at2,b1,b2,b3⟩:=iHid_l3 (callF PP orc k) k L0 (impl_NarrowHidden.l1 (callF PP orc k) k L0 fuel) (t:=t) (n:=n) (line:=(line:Int)) (x19:=x19) (x20:=(line:Int)) (pf_reads hpc hm) (own_reads a3) (by omega) (fun c h=>line_in hmk h) hM (v:=v) ⟨hv1,by omega⟩ (lineCells n line).length 0 k 0 0 (by omega) (by omega) (by omega) (by omega)
  simp only [List.drop_zero,Int.natCast_zero,Int.zero_add] at b1 b2
  have hlh:(lineCells n line).filter (fun c=>has (l.getD c.toNat 0) v)=lineHas n l line v:=rfl
  rw [hlh] at b1 b2
  by_cases c:(lineHas n l line v).length=1
  ·obtain ⟨x0,hx0⟩:=List.length_eq_one_iff.1 c
   have hat:=b2 x0 (by first | rfl | trivial) hx0
   have hxm:x0 ∈ lineCells n line:=(List.mem_filter.1 (show x0 ∈ lineHas n l line v by rw [hx0]; simp)).1
   obtain ⟨q0,q1,q2⟩:=line_in hmk hxm
   have hpm:M (pw (v:Int)):=M.pw (by omega) (by omega)
   have h31:M (mSub 31 (pw (v:Int))):=M.sub ⟨by decide,by decide⟩ hpm
   obtain ⟨H1,d1,d2,d3,d4⟩:=own_set1 hoc hpc x0.toNat (by omega) (mAnd (a.getD x0.toNat 0) (pw (v:Int)))
   have hs1:=hs.step x0.toNat q1 h31
   rw [← and_sub (hs.ms.at _) hpm] at hs1
   obtain ⟨H',a',e1,e2,e3,e4⟩:=ih (v + 1) fuel H1 _ _ (by omega) (by omega) (by omega) d2 d3 hs1
   push_cast at e1
   refine ⟨H',a',?_,e2,e3,e4.congr5 hM fun x w hx hw=>?_⟩
   ·rw [c] at b1
    subst hat
    simp only [Int.natCast_one] at b1
    simp (disch:=omega) only [impl_NarrowHidden.l1,dt,Zt,a1,hcl,AV.toS,if_true,b1,impl_NarrowHidden.j6,bt,Za,Zo,rdn (own_reads hoc),iN,m_shl (v:=(v:Int)),m_and (hs.ms.at _) hpm,d1,impl_NarrowHidden.j7,wr (n:=(v:Int) + 1),e1]
   ·have hnot:Rp.has (mSub 31 (pw (v:Int))) w=true ↔ w ≠ v:=by
     rcases has_all w hw (pw (v:Int)) with e | e
     ·rw [e,has_pw (by omega)]
      simp only [Bool.not_eq_true',decide_eq_false_iff_not]
      constructor <;> (intro h e; apply h; omega)
     ·exact absurd hpm e
    constructor
    ·rintro ((h | ⟨h1,h2⟩) | ⟨u,h1,h2⟩)
     ·exact .inl h
     ·subst h1
      exact .inr ⟨v,Nat.le_refl _,by omega,by rw [hx0]; congr 1; omega,hnot.1 h2⟩
     ·exact .inr ⟨u,by omega,h2⟩
    ·rintro (h | ⟨u,h1,h2,h3,h4⟩)
     ·exact .inl (.inl h)
     ·by_cases e:u=v
      ·subst e
       rw [hx0,List.cons.injEq] at h3
       exact .inl (.inr ⟨by omega,hnot.2 h4⟩)
      ·exact .inr ⟨u,by omega,h2,h3,h4⟩
  ·obtain ⟨H',a',e1,e2,e3,e4⟩:=ih (v + 1) fuel Hc a P (by omega) (by omega) (by omega) hpc hoc hs
   push_cast at e1
   refine ⟨H',a',?_,e2,e3,e4.congr fun x w hx=>?_⟩
   ·simp (disch:=omega) only [impl_NarrowHidden.l1,dt,Zt,a1,hcl,AV.toS,if_true,Zo,b1,impl_NarrowHidden.j6,bf,Zf,impl_NarrowHidden.j7,wr (n:=(v:Int) + 1),e1]
   ·constructor
    ·rintro (h | ⟨u,h1,h2⟩)
     ·exact .inl h
     ·exact .inr ⟨u,by omega,h2⟩
    ·rintro (h | ⟨u,h1,h2,h3,h4⟩)
     ·exact .inl h
     ·refine .inr ⟨u,?_,h2,h3,h4⟩
      by_cases e:u=v
      ·subst e; rw [h3] at c; exact absurd rfl c
      ·omega
theorem iHid_l0 {k:Nat} (hk:2000000 ≤ k) {H0:Hp} {ms t:Sl} {l:List Int} {n:Int} (hmk:masksOk n l=true) (hm:Reads .i64 H0 ms l) :
  ∀ (j line fuel:Nat) (H:Hp) (a:List Int) (P:Nat→Nat→Prop),(line:Int) + j=2 * n→j < fuel→H0 <+: H→Own 1 H0 H t (a.map (.int .i64))→Sub l a P →
   ∃ H' a',impl_NarrowHidden.l0 (callF PP orc k) k fuel ms n t (2 * n) line H=some (.sl 1 t,H')∧H0 <+: H'∧Own 1 H0 H' t (a'.map (.int .i64))∧Sub l a' (fun x w=>P x w ∨ ∃ ln u:Nat,line ≤ ln∧(ln:Int) < 2 * n∧1 ≤ u∧(u:Int) ≤ n∧lineHas n l ln u=[(x:Int)]∧w ≠ u):=by
 obtain ⟨l4,l16,lN,hN,n2,n4⟩:=masks_len hmk
 intro j
 induction j with
 | zero=>
  intro line fuel H a P hl hf hp ho hs
  obtain ⟨fuel,rfl⟩:=Zs fuel (by omega)
  refine ⟨H,a,?_,hp,ho,hs.congr fun x w hx=>⟨.inl,by rintro (h | ⟨ln,u,h1,h2,_⟩); exact h; omega⟩⟩
  simp (disch:=omega) only [impl_NarrowHidden.l0,impl_NarrowHidden.j2,df,Zf]
 | succ j ih=>
  intro line fuel H a P hl hf hp ho hs
  obtain ⟨fuel,rfl⟩:=Zs fuel (by omega)
  obtain ⟨H2,a',b1,b2,b3,b4⟩:=iHid_l1 hk (impl_NarrowHidden.l0 (callF PP orc k) k fuel) (x19:=2 * n) hmk hm (line:=line) (by omega) n.toNat 1 k H a P (by omega) (by omega) (by omega) hp ho hs
  obtain ⟨H',a'',d1,d2,d3,d4⟩:=ih (line + 1) fuel H2 a' _ (by omega) (by omega) b2 b3 b4
  push_cast at d1
  refine ⟨H',a'',?_,d2,d3,d4.congr fun x w hx=>?_⟩
  ·simp only [Int.natCast_one] at b1
   simp (disch:=omega) only [impl_NarrowHidden.l0,dt,Zt,b1,d1]
  ·constructor
   ·rintro ((h | ⟨u,h1,h2,h3,h4⟩) | ⟨ln,u,h1,h2⟩)
    ·exact .inl h
    ·exact .inr ⟨line,u,Nat.le_refl _,by omega,h1,h2,h3,h4⟩
    ·exact .inr ⟨ln,u,by omega,h2⟩
   ·rintro (h | ⟨ln,u,h1,h2,h3,h4,h5,h6⟩)
    ·exact .inl (.inl h)
    ·by_cases e:ln=line
     ·subst e; exact .inl (.inr ⟨u,h3,h4,h5,h6⟩)
     ·exact .inr ⟨ln,u,by omega,h2,h3,h4,h5,h6⟩
theorem implNarrowHidden_ok {k:Nat} (hk:2000010 ≤ k) {H:Hp} {ms:Sl} {l:List Int} {n:Int} (hb:-1 ≤ n∧n ≤ 5) (hm:Reads .i64 H ms l) (hnn:ms.nil=false) (hl:l.length ≤ 1000) (hr:∀ m ∈ l,-2 ≤ m∧m ≤ 63) :
  ∃ t H',callF PP orc k impl_NarrowHidden.id [.sl 1 ms,.int .i64 n] H=some (.sl 1 t,H')∧H <+: H'∧NilOr H H' t (hiddenV n l):=by
 obtain ⟨k,rfl⟩:=Zs k (by omega)
 rw [impl_NarrowHidden.call]
 have h1:=implMasksValid_ok (show 2000000 ≤ k by omega) hb hm hl hr
 have hml:=hm.len
 unfold hiddenV
 cases hv:masksOk n l with
 | false=>
  rw [hv] at h1
  rw [iN (by simp)]
  exact ⟨Sl.none,H,by simp only [impl_NarrowHidden.f,dt,df,bt,bf,nt,nf,Za,Zy,Zx,Zt,Zf,Zn,Zz,Zi,Zo,wr,AV.toB,AV.toI,AV.toS,if_true,h1],(List.prefix_refl _),.inl ⟨rfl,rfl⟩⟩
 | true=>
  rw [hv] at h1
  rw [ip rfl]
  obtain ⟨l4,l16,lN,hN,n2,n4⟩:=masks_len hv
  have hM:=masks_M hv
  have h2:=Clone_own (show 1 ≤ k by omega) hm hnn hl
  have hnew:=own_new 1 H (l.map (.int .i64)) l.length (by simp)
  obtain ⟨H',a',b1,b2,b3,b4⟩:=iHid_l0 (show 2000000 ≤ k by omega) hv hm (2 * n).toNat 0 k (H ++ [some (Blk.mk false (l.map (.int .i64)))]) l _ (by omega) (by omega) (List.prefix_append _ _) hnew (Sub.refl hM)
  have e:a'=subAll l (PH n l):=(b4.congr fun x w hx=>(show _ ↔ PH n l x w from ⟨by rintro (h | ⟨ln,u,_,h⟩); exact h.elim; exact ⟨ln,u,h⟩,fun ⟨ln,u,h⟩=>.inr ⟨ln,u,by omega,h⟩⟩)).eq hM
  subst e
  refine ⟨_,H',?_,b2,.inr b3⟩
  simp only [Int.natCast_zero] at b1
  simp (disch:=omega) only [impl_NarrowHidden.f,dt,df,Zy,Zf,AV.toB,AV.toS,if_true,Zo,h1,h2,wr (n:=2 * n),b1]
def peerB (n line a b:Nat):Bool:=!(decide (2 ≤ n) && (decide (line < 2 * n) && (decide (a < n) && (decide (b < n) && !(a == b))))) || (!(lc n line a == lc n line b) && (lc n line a / n == lc n line b / n || lc n line a % n == lc n line b % n))
theorem tab_peer:∀ n:Nat,n < 5→∀ line:Nat,line < 8→∀ a:Nat,a < 4→∀ b:Nat,b < 4→peerB n line a b=true:=by decide +kernel
theorem lc_peer {n:Int} (hn:2 ≤ n∧n ≤ 4) {line a b:Nat} (hl:(line:Int) < 2 * n) (ha:(a:Int) < n) (hb:(b:Int) < n) (hab:a ≠ b):peer n.toNat (lc n line a) (lc n line b):=by
 have:=tab_peer n.toNat (by omega) line (by omega) a (by omega) b (by omega)
 unfold peerB at this
 rw [decide_eq_true (show 2 ≤ n.toNat by omega),decide_eq_true (show line < 2 * n.toNat by omega),decide_eq_true (show a < n.toNat by omega),decide_eq_true (show b < n.toNat by omega),show (a == b)=false by simpa using hab,show ((n.toNat:Nat):Int)=n by omega] at this
 simp only [Zx,Za,Zy,Bool.false_or,Bool.and_eq_true,Bool.not_eq_true',beq_eq_false_iff_ne,Bool.or_eq_true,beq_iff_eq] at this
 exact this
theorem PQ2_symm {n:Int} {l:List Int} {line i j x w:Nat} (h:PQ2 n l line i j x w):PQ2 n l line j i x w:=by
 obtain ⟨h1,h2,u,h3,h4,h5,h6,h7⟩:=h
 exact ⟨h1.symm,by rw [← h1]; exact h2,u,h3,h5,h4,h6,by rw [← h1]; exact h7⟩
theorem iPairs_l13 (rec:Rec) (k:Nat) (L0:Sl→Int→Sl→Int→Int→Hp→An) (L1:Sl→Int→Sl→Sl→Int→Int→Sl→Int→Int→Hp→An) (L5:Sl→Int→Sl→Sl→Int→Int→Int→Sl→Int→Int→Sl→Int→Int→Hp→An) {H0 Hb:Hp} {ms t cs x28 x38:Sl} {l:List Int} {n x21 x22 x29 x30 x39 x40:Int} {line i jj:Nat} (hmk:masksOk n l=true) (hm:Reads .i64 H0 ms l) (hline:(line:Int) < 2 * n) (htb:t.blk < Hb.length) (hi:(i:Int) < n) (hj:(jj:Int) < n) :
  ∀ (j q fuel:Nat) (H:Hp) (a:List Int) (P:Nat→Nat→Prop),(q:Int) + j=n→j < fuel→H0 <+: H→Own 1 Hb H cs ((lineCells n line).map (.int .i64))→Own 1 H0 H t (a.map (.int .i64))→Sub l a P →
   ∃ H' a',impl_NarrowPairs.l13 rec k L0 L1 L5 fuel ms n t cs (lc n line i:Int) (lc n line jj:Int) x21 x22 x28 x29 x30 x38 x39 x40 cs n q H=L5 ms n t cs (lc n line i:Int) x21 x22 x28 x29 x30 x38 x39 (IntKind.i64.wrap (x40 + 1)) H'∧H0 <+: H'∧Own 1 H0 H' t (a'.map (.int .i64))∧Adv t.blk H H'∧Sub l a' (fun x w=>P x w ∨ ∃ u:Nat,q ≤ u∧(u:Int) < n∧u ≠ i∧u ≠ jj∧x=lc n line u∧has (l.getD (lc n line i) 0) w=true):=by
 obtain ⟨l4,l16,lN,hN,n2,n4⟩:=masks_len hmk
 have hll:=line_len hmk hline
 have hn:2 ≤ n∧n ≤ 4:=(masksOk_iff.1 hmk).1
 have hsz:=(masksOk_iff.1 hmk).2.2
 have hM:=masks_M hmk
 have hml:=hm.len
 intro j
 induction j with
 | zero=>
  intro q fuel H a P hq hf hp hc ho hs
  obtain ⟨fuel,rfl⟩:=Zs fuel (by omega)
  refine ⟨H,a,?_,hp,ho,Adv.refl _ _,hs.congr fun x w hx=>⟨.inl,by rintro (h | ⟨u,h1,h2,_⟩); exact h; omega⟩⟩
  simp (disch:=omega) only [impl_NarrowPairs.l13,impl_NarrowPairs.j11,df,Zf]
 | succ j ih=>
  intro q fuel H a P hq hf hp hc ho hs
  obtain ⟨fuel,rfl⟩:=Zs fuel (by omega)
  have hal:=hs.len
  have htl:t.len=a.length:=by have:=ho.len; simpa using this
  have hcl:=(own_reads hc).len
  have cq:=lc_lt hn hline (show (q:Int) < n by omega)
  have ci:=lc_lt hn hline hi
  have hrq:=rdn (own_reads hc) (i:=q) (by omega)
  rw [← cq.2] at hrq
  have hrm:=pf_reads hp hm
  have inj:∀ u:Nat,(u:Int) < n→u ≠ q→lc n line q ≠ lc n line u:=fun u hu hne=>(lc_peer hn hline (show (q:Int) < n by omega) hu (fun e=>hne e.symm)).1
  by_cases c:q ≠ i∧q ≠ jj
  ·have n1:=inj i hi (fun e=>c.1 e.symm)
   have n2:=inj jj hj (fun e=>c.2 e.symm)
   obtain ⟨H1,d1,d2,d3,d4⟩:=own_set1 ho hp (lc n line q) (by omega) (mSub (a.getD (lc n line q) 0) (l.getD (lc n line i) 0))
   obtain ⟨H',a',e1,e2,e3,e4,e5⟩:=ih (q + 1) fuel H1 _ _ (by omega) (by omega) d2 (d4.own htb hc) d3 (hs.step _ (by omega) (hM.at (lc n line i)))
   push_cast at e1
   refine ⟨H',a',?_,e2,e3,d4.trans e4,e5.congr fun x w hx=>?_⟩
   ·simp (disch:=omega) only [impl_NarrowPairs.l13,impl_NarrowPairs.j14,impl_NarrowPairs.j15,impl_NarrowPairs.j16,impl_NarrowPairs.j18,impl_NarrowPairs.j19,dt,nt,Za,Zt,Zn,Zo,hrq,rdn (own_reads ho),rdn hrm,m_sub (hs.ms.at _) (hM.at _),d1,wr (n:=(q:Int) + 1),e1]
   ·constructor
    ·rintro ((h | ⟨h1,h2⟩) | ⟨u,h1,h2⟩)
     ·exact .inl h
     ·exact .inr ⟨q,Nat.le_refl _,by omega,c.1,c.2,h1,h2⟩
     ·exact .inr ⟨u,by omega,h2⟩
    ·rintro (h | ⟨u,h1,h2,h3,h4,h5,h6⟩)
     ·exact .inl (.inl h)
     ·by_cases e:u=q
      ·subst e; exact .inl (.inr ⟨h5,h6⟩)
      ·exact .inr ⟨u,by omega,h2,h3,h4,h5,h6⟩
  ·obtain ⟨H',a',e1,e2,e3,e4,e5⟩:=ih (q + 1) fuel H a P (by omega) (by omega) hp hc ho hs
   push_cast at e1
   refine ⟨H',a',?_,e2,e3,e4,e5.congr fun x w hx=>?_⟩
   ·by_cases c1':q=i
    ·subst c1'
     simp (disch:=omega) only [impl_NarrowPairs.l13,impl_NarrowPairs.j14,impl_NarrowPairs.j15,impl_NarrowPairs.j17,impl_NarrowPairs.j18,impl_NarrowPairs.j19,dt,nf,Za,Zt,Zf,Zn,Zo,hrq,wr (n:=(q:Int) + 1),e1]
    ·have hqj:q=jj:=by omega
     subst hqj
     have n1:=inj i hi (fun e=>c1' e.symm)
     simp (disch:=omega) only [impl_NarrowPairs.l13,impl_NarrowPairs.j14,impl_NarrowPairs.j15,impl_NarrowPairs.j16,impl_NarrowPairs.j18,impl_NarrowPairs.j19,dt,nt,nf,Za,Zt,Zf,Zn,Zo,hrq,wr (n:=(q:Int) + 1),e1]
   ·constructor
    ·rintro (h | ⟨u,h1,h2⟩)
     ·exact .inl h
     ·exact .inr ⟨u,by omega,h2⟩
    ·rintro (h | ⟨u,h1,h2,h3,h4,h5,h6⟩)
     ·exact .inl h
     ·refine .inr ⟨u,?_,h2,h3,h4,h5,h6⟩
      by_cases e:u=q
      ·subst e; exact absurd ⟨h3,h4⟩ c
      ·omega
theorem iPairs_l5 {k:Nat} (hk:2000000 ≤ k) (L0:Sl→Int→Sl→Int→Int→Hp→An) (L1:Sl→Int→Sl→Sl→Int→Int→Sl→Int→Int→Hp→An) {H0 Hb:Hp} {ms t cs x28:Sl} {l:List Int} {n x21 x22 x29 x30:Int} {line i:Nat} (hmk:masksOk n l=true) (hm:Reads .i64 H0 ms l) (hline:(line:Int) < 2 * n) (htb:t.blk < Hb.length) (hi:(i:Int) < n) :
  ∀ (j p fuel:Nat) (H:Hp) (a:List Int) (P:Nat→Nat→Prop),((i + 1 + p:Nat):Int) + j=n→j < fuel→H0 <+: H→Own 1 Hb H cs ((lineCells n line).map (.int .i64))→Own 1 H0 H t (a.map (.int .i64))→Sub l a P →
   ∃ H' a',impl_NarrowPairs.l5 (callF Ab.PP orc k) k L0 L1 fuel ms n t cs (lc n line i:Int) x21 x22 x28 x29 x30 (Sl.mk cs.nil cs.blk (cs.off + (i + 1)) (n.toNat - (i + 1))) ((n.toNat - (i + 1):Nat):Int) p H=L1 ms n t cs x21 x22 x28 x29 (IntKind.i64.wrap (x30 + 1)) H'∧H0 <+: H'∧Own 1 H0 H' t (a'.map (.int .i64))∧Own 1 Hb H' cs ((lineCells n line).map (.int .i64))∧Sub l a' (fun x w=>P x w ∨ ∃ u:Nat,i + 1 + p ≤ u∧(u:Int) < n∧PQ2 n l line i u x w):=by
 obtain ⟨l4,l16,lN,hN,n2,n4⟩:=masks_len hmk
 have hll:=line_len hmk hline
 have hn:2 ≤ n∧n ≤ 4:=(masksOk_iff.1 hmk).1
 have hsz:=(masksOk_iff.1 hmk).2.2
 have hml:=hm.len
 intro j
 induction j with
 | zero=>
  intro p fuel H a P hq hf hp hc ho hs
  obtain ⟨fuel,rfl⟩:=Zs fuel (by omega)
  refine ⟨H,a,?_,hp,ho,hc,hs.congr fun x w hx=>⟨.inl,by rintro (h | ⟨u,h1,h2,_⟩); exact h; omega⟩⟩
  simp (disch:=omega) only [impl_NarrowPairs.l5,impl_NarrowPairs.j7,df,Zf]
 | succ j ih=>
  intro p fuel H a P hq hf hp hc ho hs
  obtain ⟨fuel,rfl⟩:=Zs fuel (by omega)
  have hcl:=(own_reads hc).len
  have ci:=lc_lt hn hline hi
  have cb:=lc_lt hn hline (show ((i + 1 + p:Nat):Int) < n by omega)
  have hrs:=reads_from (own_reads hc) (i + 1) (by omega)
  rw [hll] at hrs
  have hrp:=rdn hrs (i:=p) (by simp; omega)
  have edr:((lineCells n line).drop (i + 1)).getD p 0=(lineCells n line).getD (i + 1 + p) 0:=by
   rw [List.getD_eq_getElem?_getD,List.getElem?_drop,← List.getD_eq_getElem?_getD]
  rw [edr,← cb.2] at hrp
  have hrm:=pf_reads hp hm
  have hi2:lc n line i < l.length:=by omega
  have hb2:lc n line (i + 1 + p) < l.length:=by omega
  have h1:=OnesCount_ok (show 2 ≤ k by omega) (masks_at hmk hi2) H
  by_cases ce:l.getD (lc n line i) 0=l.getD (lc n line (i + 1 + p)) 0
  ·by_cases c3:cntM (l.getD (lc n line i) 0)=2
   ·obtain ⟨H2,a',b1,b2,b3,b4,b5⟩:=iPairs_l13 (callF Ab.PP orc k) k L0 L1 (impl_NarrowPairs.l5 (callF Ab.PP orc k) k L0 L1 fuel) (x21:=x21) (x22:=x22) (x28:=x28) (x29:=x29) (x30:=x30) (x38:=Sl.mk cs.nil cs.blk (cs.off + (i + 1)) (n.toNat - (i + 1))) (x39:=((n.toNat - (i + 1):Nat):Int)) (x40:=(p:Int)) hmk hm hline htb hi (jj:=i + 1 + p) (by omega) n.toNat 0 k H a P (by omega) (by omega) hp hc ho hs
    have hc2:=b4.own htb hc
    obtain ⟨H',a'',d1,d2,d3,d4,d5⟩:=ih (p + 1) fuel H2 a' _ (by omega) (by omega) b2 hc2 b3 b5
    push_cast at d1
    refine ⟨H',a'',?_,d2,d3,d4,d5.congr fun x w hx=>?_⟩
    ·simp only [Int.natCast_zero] at b1
     rw [← hN] at *
     have hlen:(cs.len:Int)=n:=by omega
     have hc2':((cntM (l.getD (lc n line i) 0):Nat):Int)=2:=by omega
     simp (disch:=omega) only [impl_NarrowPairs.l5,impl_NarrowPairs.j6,impl_NarrowPairs.j9,impl_NarrowPairs.j10,impl_NarrowPairs.j12,dt,nf,Za,Zt,Zf,Zn,Zo,AV.toI,if_true,hrp,rdn hrm,h1,hc2',hlen,b1,wr (n:=(p:Int) + 1),d1]
    ·have ht:two (l.getD (lc n line i) 0)=true:=by unfold two; unfold cntM at c3; rw [c3]; rfl
     constructor
     ·rintro ((h | ⟨u,h1,h2,h3,h4,h5,h6⟩) | ⟨u,h1,h2⟩)
      ·exact .inl h
      ·exact .inr ⟨i + 1 + p,Nat.le_refl _,by omega,ce,ht,u,h2,h3,h4,h5,h6⟩
      ·exact .inr ⟨u,by omega,h2⟩
     ·rintro (h | ⟨u,h1,h2,h3,h4,z,h5,h6,h7,h8,h9⟩)
      ·exact .inl (.inl h)
      ·by_cases e:u=i + 1 + p
       ·subst e; exact .inl (.inr ⟨z,by omega,h5,h6,h7,h8,h9⟩)
       ·exact .inr ⟨u,by omega,h2,h3,h4,z,h5,h6,h7,h8,h9⟩
   ·obtain ⟨H',a'',d1,d2,d3,d4,d5⟩:=ih (p + 1) fuel H a P (by omega) (by omega) hp hc ho hs
    push_cast at d1
    refine ⟨H',a'',?_,d2,d3,d4,d5.congr fun x w hx=>?_⟩
    ·have hc2':((cntM (l.getD (lc n line i) 0):Nat):Int) ≠ 2:=by omega
     simp (disch:=omega) only [impl_NarrowPairs.l5,impl_NarrowPairs.j6,impl_NarrowPairs.j9,impl_NarrowPairs.j10,impl_NarrowPairs.j11,dt,nf,nt hc2',Za,Zt,Zf,Zn,Zo,AV.toI,if_true,hrp,rdn hrm,h1,wr (n:=(p:Int) + 1),d1]
    ·have ht:¬ two (l.getD (lc n line i) 0)=true:=by unfold two; rw [beq_iff_eq]; exact c3
     constructor
     ·rintro (h | ⟨u,h1,h2⟩)
      ·exact .inl h
      ·exact .inr ⟨u,by omega,h2⟩
     ·rintro (h | ⟨u,h1,h2,h3,h4,h5⟩)
      ·exact .inl h
      ·exact absurd h4 ht
  ·obtain ⟨H',a'',d1,d2,d3,d4,d5⟩:=ih (p + 1) fuel H a P (by omega) (by omega) hp hc ho hs
   push_cast at d1
   refine ⟨H',a'',?_,d2,d3,d4,d5.congr fun x w hx=>?_⟩
   ·simp (disch:=omega) only [impl_NarrowPairs.l5,impl_NarrowPairs.j6,impl_NarrowPairs.j8,impl_NarrowPairs.j10,impl_NarrowPairs.j11,dt,nt ce,Za,Zt,Zf,Zn,Zo,hrp,rdn hrm,wr (n:=(p:Int) + 1),d1]
   ·constructor
    ·rintro (h | ⟨u,h1,h2⟩)
     ·exact .inl h
     ·exact .inr ⟨u,by omega,h2⟩
    ·rintro (h | ⟨u,h1,h2,h3,h4⟩)
     ·exact .inl h
     ·refine .inr ⟨u,?_,h2,h3,h4⟩
      by_cases e:u=i + 1 + p
      ·subst e; exact absurd h3 ce
      ·omega
theorem iPairs_l1 {k:Nat} (hk:2000000 ≤ k) (L0:Sl→Int→Sl→Int→Int→Hp→An) {H0 Hb:Hp} {ms t cs:Sl} {l:List Int} {n x21 x22:Int} {line:Nat} (hmk:masksOk n l=true) (hm:Reads .i64 H0 ms l) (hline:(line:Int) < 2 * n) (htb:t.blk < Hb.length) :
  ∀ (j i fuel:Nat) (H:Hp) (a:List Int) (P:Nat→Nat→Prop),(i:Int) + j=n→j < fuel→H0 <+: H→Own 1 Hb H cs ((lineCells n line).map (.int .i64))→Own 1 H0 H t (a.map (.int .i64))→Sub l a P →
   ∃ H' a',impl_NarrowPairs.l1 (callF Ab.PP orc k) k L0 fuel ms n t cs x21 x22 cs n i H=L0 ms n t x21 (IntKind.i64.wrap (x22 + 1)) H'∧H0 <+: H'∧Own 1 H0 H' t (a'.map (.int .i64))∧Sub l a' (fun x w=>P x w ∨ ∃ z u:Nat,i ≤ z∧z < u∧(u:Int) < n∧PQ2 n l line z u x w):=by
 obtain ⟨l4,l16,lN,hN,n2,n4⟩:=masks_len hmk
 have hll:=line_len hmk hline
 have hn:2 ≤ n∧n ≤ 4:=(masksOk_iff.1 hmk).1
 intro j
 induction j with
 | zero=>
  intro i fuel H a P hq hf hp hc ho hs
  obtain ⟨fuel,rfl⟩:=Zs fuel (by omega)
  refine ⟨H,a,?_,hp,ho,hs.congr fun x w hx=>⟨.inl,by rintro (h | ⟨z,u,h1,h2,h3,_⟩); exact h; omega⟩⟩
  simp (disch:=omega) only [impl_NarrowPairs.l1,impl_NarrowPairs.j4,df,Zf]
 | succ j ih=>
  intro i fuel H a P hq hf hp hc ho hs
  obtain ⟨fuel,rfl⟩:=Zs fuel (by omega)
  have hi:(i:Int) < n:=by omega
  have hcl:=(own_reads hc).len
  have ci:=lc_lt hn hline hi
  have hrq:=rdn (own_reads hc) (i:=i) (by omega)
  rw [← ci.2] at hrq
  obtain ⟨H1,a',b1,b2,b3,b4,b5⟩:=iPairs_l5 hk L0 (impl_NarrowPairs.l1 (callF Ab.PP orc k) k L0 fuel) (x21:=x21) (x22:=x22) (x28:=cs) (x29:=n) (x30:=(i:Int)) hmk hm hline htb hi (n.toNat - (i + 1)) 0 k H a P (by omega) (by omega) hp hc ho hs
  obtain ⟨H',a'',d1,d2,d3,d4⟩:=ih (i + 1) fuel H1 a' _ (by omega) (by omega) b2 b4 b3 b5
  push_cast at d1
  refine ⟨H',a'',?_,d2,d3,d4.congr fun x w hx=>?_⟩
  ·have hlen:(cs.len:Int)=n:=by omega
   have w1:IntKind.i64.wrap ((i:Int) + 1)=(i:Int) + 1:=wr (by omega) (by omega)
   have esl:(Sl.mk cs.nil cs.blk (cs.off + ((i:Int) + 1).toNat * 1) (n - ((i:Int) + 1)).toNat)=Sl.mk cs.nil cs.blk (cs.off + (i + 1)) (n.toNat - (i + 1)):=by
    congr 1 <;> omega
   have hq:((0:Int) ≤ (i:Int) + 1∧(i:Int) + 1 ≤ n∧n ≤ n∧True)∧0 < 1∧True:=⟨⟨by omega,by omega,by omega,trivial⟩,by omega,trivial⟩
   simp only [Int.natCast_zero] at b1
   simp (disch:=omega) only [impl_NarrowPairs.l1,impl_NarrowPairs.j3,dt,Za,Zt,Zn,Zo,hrq,hlen,w1,esl,ip hq]
   rw [show (n - ((i:Int) + 1)).toNat=n.toNat - (i + 1) by omega,b1,w1,d1]
  ·constructor
   ·rintro ((h | ⟨u,h1,h2,h3⟩) | ⟨z,u,h1,h2⟩)
    ·exact .inl h
    ·exact .inr ⟨i,u,Nat.le_refl _,by omega,h2,h3⟩
    ·exact .inr ⟨z,u,by omega,h2⟩
   ·rintro (h | ⟨z,u,h1,h2,h3,h4⟩)
    ·exact .inl (.inl h)
    ·by_cases e:z=i
     ·subst e; exact .inl (.inr ⟨u,by omega,h3,h4⟩)
     ·exact .inr ⟨z,u,by omega,h2,h3,h4⟩
theorem iPairs_l0 {k:Nat} (hk:2000000 ≤ k) {H0:Hp} {ms t:Sl} {l:List Int} {n:Int} (hmk:masksOk n l=true) (hm:Reads .i64 H0 ms l) :
  ∀ (j line fuel:Nat) (H:Hp) (a:List Int) (P:Nat→Nat→Prop),(line:Int) + j=2 * n→j < fuel→H0 <+: H→Own 1 H0 H t (a.map (.int .i64))→Sub l a P →
   ∃ H' a',impl_NarrowPairs.l0 (callF Ab.PP orc k) k fuel ms n t (2 * n) line H=some (.sl 1 t,H')∧H0 <+: H'∧Own 1 H0 H' t (a'.map (.int .i64))∧Sub l a' (fun x w=>P x w ∨ ∃ ln z u:Nat,line ≤ ln∧(ln:Int) < 2 * n∧z < u∧(u:Int) < n∧PQ2 n l ln z u x w):=by
 obtain ⟨l4,l16,lN,hN,n2,n4⟩:=masks_len hmk
 have hn:2 ≤ n∧n ≤ 4:=(masksOk_iff.1 hmk).1
 intro j
 induction j with
 | zero=>
  intro line fuel H a P hl hf hp ho hs
  obtain ⟨fuel,rfl⟩:=Zs fuel (by omega)
  refine ⟨H,a,?_,hp,ho,hs.congr fun x w hx=>⟨.inl,by rintro (h | ⟨ln,z,u,h1,h2,_⟩); exact h; omega⟩⟩
  simp (disch:=omega) only [impl_NarrowPairs.l0,impl_NarrowPairs.j2,df,Zf]
 | succ j ih=>
  intro line fuel H a P hl hf hp ho hs
  obtain ⟨fuel,rfl⟩:=Zs fuel (by omega)
  have hline:(line:Int) < 2 * n:=by omega
  obtain ⟨cs,H1,a1,a2,a3⟩:=implLineCells_own hk hn (line:=(line:Int)) ⟨by omega,hline⟩ H
  have hcl:=(own_reads a3).len
  have hll:=line_len hmk hline
  obtain ⟨H2,a',b1,b2,b3,b4⟩:=iPairs_l1 hk (impl_NarrowPairs.l0 (callF Ab.PP orc k) k fuel) (x21:=2 * n) (x22:=(line:Int)) hmk hm hline (own_lt' ho) n.toNat 0 k H1 a P (by omega) (by omega) (hp.trans a2) a3 (own_pf ho a2) hs
  obtain ⟨H',a'',d1,d2,d3,d4⟩:=ih (line + 1) fuel H2 a' _ (by omega) (by omega) b2 b3 b4
  push_cast at d1
  refine ⟨H',a'',?_,d2,d3,d4.congr fun x w hx=>?_⟩
  ·simp only [Int.natCast_zero] at b1
   have hlen:(cs.len:Int)=n:=by omega
   simp (disch:=omega) only [impl_NarrowPairs.l0,dt,Zt,Zo,AV.toS,if_true,a1,hlen,b1,wr (n:=(line:Int) + 1),d1]
  ·constructor
   ·rintro ((h | ⟨z,u,h1,h2,h3,h4⟩) | ⟨ln,z,u,h1,h2⟩)
    ·exact .inl h
    ·exact .inr ⟨line,z,u,Nat.le_refl _,by omega,h2,h3,h4⟩
    ·exact .inr ⟨ln,z,u,by omega,h2⟩
   ·rintro (h | ⟨ln,z,u,h1,h2,h3,h4,h5⟩)
    ·exact .inl (.inl h)
    ·by_cases e:ln=line
     ·subst e; exact .inl (.inr ⟨z,u,by omega,h3,h4,h5⟩)
     ·exact .inr ⟨ln,z,u,by omega,h2,h3,h4,h5⟩
theorem implNarrowPairs_ok {k:Nat} (hk:2000010 ≤ k) {H:Hp} {ms:Sl} {l:List Int} {n:Int} (hb:-1 ≤ n∧n ≤ 5) (hm:Reads .i64 H ms l) (hnn:ms.nil=false) (hl:l.length ≤ 1000) (hr:∀ m ∈ l,-2 ≤ m∧m ≤ 63) :
  ∃ t H',callF Ab.PP orc k impl_NarrowPairs.id [.sl 1 ms,.int .i64 n] H=some (.sl 1 t,H')∧H <+: H'∧NilOr H H' t (pairsV n l):=by
 obtain ⟨k,rfl⟩:=Zs k (by omega)
 rw [impl_NarrowPairs.call]
 have h1:=implMasksValid_ok (show 2000000 ≤ k by omega) hb hm hl hr
 have hml:=hm.len
 unfold pairsV
 cases hv:masksOk n l with
 | false=>
  rw [hv] at h1
  rw [iN (by simp)]
  exact ⟨Sl.none,H,by simp only [impl_NarrowPairs.f,dt,df,bt,bf,nt,nf,Za,Zy,Zx,Zt,Zf,Zn,Zz,Zi,Zo,wr,AV.toB,AV.toI,AV.toS,if_true,h1],(List.prefix_refl _),.inl ⟨rfl,rfl⟩⟩
 | true=>
  rw [hv] at h1
  rw [ip rfl]
  obtain ⟨l4,l16,lN,hN,n2,n4⟩:=masks_len hv
  have hM:=masks_M hv
  have h2:=Clone_own (show 1 ≤ k by omega) hm hnn hl
  have hnew:=own_new 1 H (l.map (.int .i64)) l.length (by simp)
  obtain ⟨H',a',b1,b2,b3,b4⟩:=iPairs_l0 (show 2000000 ≤ k by omega) hv hm (2 * n).toNat 0 k (H ++ [some (Blk.mk false (l.map (.int .i64)))]) l _ (by omega) (by omega) (List.prefix_append _ _) hnew (Sub.refl hM)
  have e:a'=subAll l (PQ n l):=(b4.congr fun x w hx=>(show _ ↔ PQ n l x w from by
   rw [PQ_iff]
   constructor
   ·rintro (h | ⟨ln,z,u,_,h1,h2,h3,h4⟩)
    ·exact h.elim
    ·exact ⟨ln,u,z,h1,h3,h2,PQ2_symm h4⟩
   ·rintro ⟨ln,i,u,h1,h2,h3,h4⟩
    exact .inr ⟨ln,u,i,by omega,h1,h3,h2,PQ2_symm h4⟩)).eq hM
  subst e
  refine ⟨_,H',?_,b2,.inr b3⟩
  simp only [Int.natCast_zero] at b1
  simp (disch:=omega) only [impl_NarrowPairs.f,dt,df,Zy,Zf,AV.toB,AV.toS,if_true,Zo,h1,h2,wr (n:=2 * n),b1]

theorem get_new (L:Hp) (x:Option Blk):(L ++ [x])[L.length]?=some x:=by simp
theorem implruleMasks_ok {k:Nat} (hk:2000030 ≤ k) {kind value:Int} {cs ws:Sl} {H:Hp} {own:List Int} (hw:Reads .i64 H ws own) (hol:own.length ≤ 4) (hom:∀ m ∈ own,(0 ≤ m∧m ≤ 30)∧m.tmod 2=0) (hk2:KindLen kind own.length) :
  ∃ t H',callF PP orc k impl_ruleMasks.id [.agg [.int .i64 kind,.sl 1 cs,.int .i64 value],.sl 1 ws] H=some (.sl 1 t,H')∧H <+: H'∧Own 1 H H' t ((ruleMasksV kind value own).map (.int .i64)):=by
 obtain ⟨k,rfl⟩:=Zs k (by omega)
 rw [impl_ruleMasks.call]
 have hwl:=hw.len
 obtain ⟨Ha,hHa⟩:∃ X,H ++ [some (Blk.mk false [.int .i64 kind,.sl 1 cs,.int .i64 value])]=X:=⟨_,rfl⟩
 obtain ⟨Hb,hHb⟩:∃ X,Ha ++ [some (Blk.mk false [.sl 1 ws])]=X:=⟨_,rfl⟩
 obtain ⟨Hc,hHc⟩:∃ X,Hb ++ [some (Blk.mk false ((List.replicate own.length (0:Int)).map (.int .i64)))]=X:=⟨_,rfl⟩
 obtain ⟨Hd,hHd⟩:∃ X,Hc ++ [some (Blk.mk false [.sl 1 Sl.none])]=X:=⟨_,rfl⟩
 have la:Ha.length=H.length + 1:=by rw [← hHa]; simp
 have lb:Hb.length=H.length + 2:=by rw [← hHb]; simp [la]
 have lc:Hc.length=H.length + 3:=by rw [← hHc]; simp [lb]
 have ld:Hd.length=H.length + 4:=by rw [← hHd]; simp [lc]
 have pa:H <+: Ha:=by rw [← hHa]; exact (List.prefix_append _ _)
 have pb:Ha <+: Hb:=by rw [← hHb]; exact (List.prefix_append _ _)
 have pc:Hb <+: Hc:=by rw [← hHc]; exact (List.prefix_append _ _)
 have pd:Hc <+: Hd:=by rw [← hHd]; exact (List.prefix_append _ _)
 have ga:Ha[H.length]?=some (some (Blk.mk false [.int .i64 kind,.sl 1 cs,.int .i64 value])):=by rw [← hHa]; exact get_new _ _
 have gb:Hb[Ha.length]?=some (some (Blk.mk false [.sl 1 ws])):=by rw [← hHb]; exact get_new _ _
 have gc:Hc[Hb.length]?=some (some (Blk.mk false ((List.replicate own.length (0:Int)).map (.int .i64)))):=by rw [← hHc]; exact get_new _ _
 have gd:Hd[Hc.length]?=some (some (Blk.mk false [.sl 1 Sl.none])):=by rw [← hHd]; exact get_new _ _
 obtain ⟨H2,a1,a2,a3,a4⟩:=sto1' gd (.sl 1 (Sl.mk false Hb.length 0 own.length))
 obtain ⟨He,hHe⟩:∃ X,H2 ++ [some (Blk.mk false ((List.replicate own.length (0:Int)).map (.int .i64)))]=X:=⟨_,rfl⟩
 obtain ⟨Hf,hHf⟩:∃ X,He ++ [some (Blk.mk false [.sl 1 Sl.none])]=X:=⟨_,rfl⟩
 have le:He.length=H.length + 5:=by rw [← hHe]; simp; omega
 have lf:Hf.length=H.length + 6:=by rw [← hHf]; simp [le]
 have pe:H2 <+: He:=by rw [← hHe]; exact (List.prefix_append _ _)
 have pf:He <+: Hf:=by rw [← hHf]; exact (List.prefix_append _ _)
 have ge:He[H2.length]?=some (some (Blk.mk false ((List.replicate own.length (0:Int)).map (.int .i64)))):=by rw [← hHe]; exact get_new _ _
 have gf:Hf[He.length]?=some (some (Blk.mk false [.sl 1 Sl.none])):=by rw [← hHf]; exact get_new _ _
 obtain ⟨H4,b1,b2,b3,b4⟩:=sto1' gf (.sl 1 (Sl.mk false H2.length 0 own.length))
 obtain ⟨Hg,hHg⟩:∃ X,H4 ++ [some (Blk.mk false [.nilf])]=X:=⟨_,rfl⟩
 have lg:Hg.length=H.length + 7:=by rw [← hHg]; simp; omega
 have pg:H4 <+: Hg:=by rw [← hHg]; exact (List.prefix_append _ _)
 have gg:Hg[H4.length]?=some (some (Blk.mk false [.nilf])):=by rw [← hHg]; exact get_new _ _
 obtain ⟨H5,c1,c2,c3,c4⟩:=sto1' gg (.fn impl_ruleMasks_1.id [.ptr Ha.length 0,.ptr H.length 0,.ptr He.length 0,.ptr Hc.length 0,.ptr H4.length 0])
 -- what lies where in the end
 have up:∀ {d:Nat} {x:Blk},d ≠ Hc.length→Hd[d]?=some (some x)→H2[d]?=some (some x):=fun h h'=>a3 _ _ h h'
 have up4:∀ {d:Nat} {x:Blk},d ≠ He.length→H2[d]?=some (some x)→H4[d]?=some (some x):=fun h h'=>b3 _ _ h (pf_get (pe.trans pf) h')
 have up5:∀ {d:Nat} {x:Blk},d ≠ H4.length→H4[d]?=some (some x)→H5[d]?=some (some x):=fun h h'=>c3 _ _ h (pf_get pg h')
 have hr5:=up5 (by omega) (up4 (by omega) (up (by omega) (pf_get (pb.trans (pc.trans pd)) ga)))
 have hb2:=up (by omega) (pf_get (pc.trans pd) gb)
 have hb5:=up5 (by omega) (up4 (by omega) hb2)
 have hc5:=up5 (by omega) (up4 (by omega) (up (by omega) (pf_get pd gc)))
 have ho5:=up5 (by omega) (up4 (by omega) a2)
 have hv5:=up5 (by omega) (b3 _ _ (by omega) (pf_get pf ge))
 have hvb5:=up5 (by omega) b2
 have p5:H <+: H5:=by
  have q2:H <+: H2:=a3.pf (by omega) (pa.trans (pb.trans (pc.trans pd))) (by omega)
  have q4:H <+: H4:=b3.pf (by omega) (q2.trans (pe.trans pf)) (by omega)
  exact c3.pf (by omega) (q4.trans pg) (by omega)
 have ht:Try H5 Ha.length H.length He.length Hc.length H4.length kind value cs ws (Sl.mk false H2.length 0 own.length) (Sl.mk false Hb.length 0 own.length):=
  ⟨hb5,hr5,hvb5,ho5,c2,by simp only; omega⟩
 obtain ⟨H',rest',d1,d2,d3,d4,d5,d6⟩:=Try_ok (B:=H) (value:=value) hw hol hom hk2 (vs:=Sl.mk false H2.length 0 own.length) (os:=Sl.mk false Hb.length 0 own.length) (by simp only; omega) own.length k (by omega) H5 [] (List.replicate own.length 0) (List.replicate own.length 0) (by simp) (by simp) p5 ht
  ⟨rfl,rfl,by simp only; omega,by simpa using hv5,by simp⟩ ⟨by simp,fun v hv=>by cases hv⟩ (by simp) (Ms.zeros _) ⟨rfl,rfl,by simp only; omega,hc5,by simp⟩
 have ht':=ht.adv d4
 refine ⟨Sl.mk false Hb.length 0 own.length,H',?_,d3,by simpa [ruleMasksV] using d6⟩
 have l1:ldS 1 Hb Ha.length 0=some ws:=box_sl gb
 have l2:ldS 1 H2 Ha.length 0=some ws:=box_sl hb2
 have l3:ldF H5 H4.length 0=some (impl_ruleMasks_1.id,[.ptr Ha.length 0,.ptr H.length 0,.ptr He.length 0,.ptr Hc.length 0,.ptr H4.length 0]):=by unfold ldF Hp.cell; rw [c2]; simp [AV.toF]
 have l4:=box_sl ht'.o
 simp only [Zm,Int.natCast_zero] at d1
 simp only [impl_ruleMasks.f,hHa,hHb,l1,Zo]
 rw [ip (by omega)]
 simp only [hwl,Zn,flat0s,hHc,hHd,a1,Zo,l2]
 rw [ip (by omega)]
 simp only [hwl,Zn,flat0s,hHe,hHf,b1,Zo,hHg,c1,l3,okTry,List.cons_append,List.nil_append,List.all_cons,List.all_nil,AV.glob,AV.cell,Za,Zt,d1,l4]
theorem kindLen_of {n kind value:Int} {m:Nat} (h:kindOk n kind value m=true):KindLen kind m:=by
 unfold kindOk at h
 unfold KindLen
 split at h
 ·omega
 ·split at h
  ·omega
  ·split at h
   ·simp only [decide_eq_true_eq] at h; omega
   ·split at h
    ·simp only [decide_eq_true_eq] at h; omega
    ·cases h
theorem ownOf_even {n:Int} {masks cells:List Int} (hm:masksOk n masks=true) (hc:∀ c ∈ cells,0 ≤ c∧c < (masks.length:Int)):∀ m ∈ ownOf masks cells,(0 ≤ m∧m ≤ 30)∧m.tmod 2=0:=fun m h=>by
 obtain ⟨c,hc',rfl⟩:=List.mem_map.1 h
 obtain ⟨c0,c1⟩:=hc c hc'
 have:=(masksOk_iff.1 hm).2.1 _ (gv_mem c0 c1)
 unfold maskOk at this
 simp only [Bool.and_eq_true,decide_eq_true_eq,beq_iff_eq] at this
 have ht:=topMask_le n
 omega
theorem dm_of {n:Int} {l:List Int} (h:masksOk n l=true):l.length ≤ 16∧0 < l.length∧∀ m ∈ l,-2 ≤ m∧m ≤ 63:=by
 obtain ⟨h1,h2,h3⟩:=masksOk_iff.1 h
 have:=masks_len h
 refine ⟨by omega,by omega,fun m hm=>?_⟩
 have:=(maskOk_iff.1 (h2 m hm)).1
 have:=topMask_le n
 omega
theorem implRM_l2 {k:Nat} (hk:2000030 ≤ k) {n kind value:Int} {cs ms:Sl} {H0:Hp} {cells l:List Int} (hc:Reads .i64 H0 cs cells) (hm:Reads .i64 H0 ms l) (hr:ruleOk n kind cells value=true) (hl:masksOk n l=true) :
  ∀ (j i fuel:Nat) (H:Hp) (t:Sl),i + j=cells.length→j < fuel→H0 <+: H→Own 1 H0 H t ((ownOf l (cells.take i)).map (.int .i64)) →
   ∃ t' H',impl_RuleMasks.l2 (callF PP orc k) k fuel ms t cs cells.length i kind cs value H=some (.sl 1 t',H')∧H0 <+: H'∧Own 1 H0 H' t' ((ruleMasksV kind value (ownOf l cells)).map (.int .i64)):=by
 obtain ⟨c1,c2,c3,c4⟩:=ruleOk_cells hr
 have hcl:=hc.len
 have hml:=hm.len
 have hsz:=(masksOk_iff.1 hl).2.2
 have hk2:KindLen kind cells.length:=by
  have hr':=hr
  unfold ruleOk at hr'
  rw [Bool.and_eq_true] at hr'
  exact kindLen_of hr'.2
 intro j
 induction j with
 | zero=>
  intro i fuel H t hi hf hp ho
  obtain ⟨fuel,rfl⟩:=Zs fuel (by omega)
  rw [List.take_of_length_le (by omega)] at ho
  obtain ⟨t',H',a1,a2,a3⟩:=implruleMasks_ok hk (kind:=kind) (value:=value) (cs:=cs) (own_reads ho) (by rw [own_len]; omega) (ownOf_even hl fun c hcc=>by have:=c1 c hcc; omega) (by rw [own_len]; exact hk2)
  refine ⟨t',H',?_,hp.trans a2,own_base a3 hp⟩
  simp (disch:=omega) only [impl_RuleMasks.l2,impl_RuleMasks.j3,df,Zf,a1,Zo,AV.toS,if_true]
 | succ j ih=>
  intro i fuel H t hi hf hp ho
  obtain ⟨fuel,rfl⟩:=Zs fuel (by omega)
  have hi2:i < cells.length:=by omega
  have hcc:=c1 _ (mem_getD hi2)
  have htl:t.len=i:=by have:=ho.len; simp [ownOf] at this; omega
  have htk:ownOf l (cells.take (i + 1))=ownOf l (cells.take i) ++ [l.getD (cells.getD i 0).toNat 0]:=by
   rw [List.take_succ_eq_append_getElem hi2]; unfold ownOf
   rw [List.map_append,List.getD_eq_getElem?_getD (l:=cells),List.getElem?_eq_getElem hi2]; rfl
  obtain ⟨H1,a1,a2,a3,a4,a5⟩:=own_app1 ho hp (l.getD (cells.getD i 0).toNat 0) (by omega)
  rw [← htk] at a3
  obtain ⟨t',H',b1,b2,b3⟩:=ih (i + 1) fuel H1 _ (by omega) (by omega) a2 a3
  push_cast at b1
  refine ⟨t',H',?_,b2,b3⟩
  have hc0:(0:Int) ≤ cells.getD i 0:=hcc.1
  have hc3:cells.getD i 0 < (ms.len:Int):=by omega
  simp (disch:=omega) only [impl_RuleMasks.l2,dt,Za,Zt,Zn,Zo,rdn (pf_reads hp hc),rdn (pf_reads hp hm),a1,wr (n:=(i:Int) + 1),b1]
theorem implRuleMasks_ok {k:Nat} (hk:2000040 ≤ k) {n kind value:Int} (hn:2 ≤ n∧n ≤ 4) {cs ms:Sl} {H:Hp} {cells l:List Int} (hc:Reads .i64 H cs cells) (hm:Reads .i64 H ms l) (hcl:cells.length ≤ 1000) (hml:l.length ≤ 1000) (hr:∀ m ∈ l,-2 ≤ m∧m ≤ 63) :
  ∃ t H',callF PP orc k impl_RuleMasks.id [.agg [.int .i64 kind,.sl 1 cs,.int .i64 value],.sl 1 ms,.int .i64 n] H=some (.sl 1 t,H')∧H <+: H'∧NilOr H H' t (ruleMasksS n kind value cells l):=by
 obtain ⟨k,rfl⟩:=Zs k (by omega)
 rw [impl_RuleMasks.call]
 have h1:=implRuleValid_ok (show 2000002 ≤ k by omega) (kind:=kind) (value:=value) hn hc hcl
 have h2:=implMasksValid_ok (show 2000000 ≤ k by omega) (n:=n) (by omega) hm hml hr
 have hcs:=hc.len
 unfold ruleMasksS
 cases e1:ruleOk n kind cells value with
 | false=>
  rw [e1] at h1
  refine ⟨Sl.none,H,by simp only [impl_RuleMasks.f,impl_RuleMasks.j0,dt,df,bt,bf,nt,nf,Za,Zy,Zx,Zt,Zf,Zn,Zz,Zi,Zo,wr,AV.toB,AV.toI,AV.toS,if_true,h1],(List.prefix_refl _),.inl ⟨rfl,?_⟩⟩
  rw [iN (by simp)]
 | true=>
  rw [e1] at h1
  cases e2:masksOk n l with
  | false=>
   rw [e2] at h2
   refine ⟨Sl.none,H,by simp only [impl_RuleMasks.f,impl_RuleMasks.j0,dt,df,bt,bf,nt,nf,Za,Zy,Zx,Zt,Zf,Zn,Zz,Zi,Zo,wr,AV.toB,AV.toI,AV.toS,if_true,h1,h2],(List.prefix_refl _),.inl ⟨rfl,?_⟩⟩
   rw [iN (by simp)]
  | true=>
   rw [e2] at h2
   rw [ip ⟨by rw [decide_eq_true hn]; rfl,rfl⟩]
   have hcb:=(ruleOk_cells e1).2.1
   obtain ⟨t',H',b1,b2,b3⟩:=implRM_l2 (show 2000030 ≤ k by omega) hc hm e1 e2 cells.length 0 k (H ++ [some (Blk.mk false [])]) (Sl.mk false H.length 0 0) (by omega) (by omega) (List.prefix_append _ _) (own_new 1 H [] 0 rfl)
   refine ⟨t',H',?_,b2,.inr b3⟩
   simp only [Int.natCast_zero] at b1
   simp only [impl_RuleMasks.f,impl_RuleMasks.j0,impl_RuleMasks.j1,dt,df,bt,bf,nt,nf,Za,Zy,Zx,Zt,Zf,Zn,Zz,Zi,Zo,wr,AV.toB,AV.toI,AV.toS,if_true,h1,h2,hcs,b1]
theorem iRules_l3 (rec:Rec) (k:Nat) (L2:Sl→Sl→Int→Int→Int→Sl→Sl→Hp→An) {H0 Hb:Hp} {n kind value x24:Int} {gs s cs us t x23:Sl} {cells fl:List Int} {i m:Nat} (hc:Reads .i64 H0 cs cells) (hcl:cells.length ≤ 1000) (hfl:fl.length=cells.length) (hin:∀ c ∈ cells,0 ≤ c∧c < (m:Int)) (hm:m ≤ 1000) (htb:t.blk < Hb.length) :
  ∀ (j q fuel:Nat) (H:Hp) (a:List Int),q + j=cells.length→j < fuel→H0 <+: H→Own 1 Hb H us (fl.map (.int .i64))→Own 1 H0 H t (a.map (.int .i64))→a.length=m →
   ∃ H',impl_NarrowRules.l3 rec k L2 fuel t x23 x24 i us (cells.length:Int) q n gs s kind cs value H=L2 t x23 x24 (IntKind.i64.wrap ((i:Int) + 1)) n gs s H'∧H0 <+: H'∧Own 1 H0 H' t ((setAll cells a fl q j).map (.int .i64))∧Adv t.blk H H':=by
 have hcs:=hc.len
 intro j
 induction j with
 | zero=>
  intro q fuel H a hq hf hp hu ho ha
  obtain ⟨fuel,rfl⟩:=Zs fuel (by omega)
  refine ⟨H,?_,hp,ho,Adv.refl _ _⟩
  simp (disch:=omega) only [impl_NarrowRules.l3,impl_NarrowRules.j5,df,Zf]
 | succ j ih=>
  intro q fuel H a hq hf hp hu ho ha
  obtain ⟨fuel,rfl⟩:=Zs fuel (by omega)
  have hq2:q < cells.length:=by omega
  obtain ⟨c0,c1⟩:=hin _ (mem_getD hq2)
  have hus:=(own_reads hu).len
  have htl:=(own_reads ho).len
  have hrc:=pf_reads hp hc
  obtain ⟨H1,a1,a2,a3,a4⟩:=own_set1 ho hp (cells.getD q 0).toNat (by omega) (fl.getD q 0)
  obtain ⟨H',b1,b2,b3,b4⟩:=ih (q + 1) fuel H1 _ (by omega) (by omega) a2 (a4.own htb hu) a3 (by simpa using ha)
  push_cast at b1
  refine ⟨H',?_,b2,b3,a4.trans b4⟩
  simp (disch:=omega) only [impl_NarrowRules.l3,dt,Za,Zt,Zn,Zo,rdn hrc,rdn (own_reads hu),a1,wr (n:=(q:Int) + 1),b1]
theorem iRules_l2 {k:Nat} (hk:2000040 ≤ k) {H0:Hp} {n:Int} {gs s t:Sl} {given:List Int} {rs:List R} (hz:PuzAt H0 n gs s given rs) (hro:∀ r ∈ rs,R.ok n r=true) :
  ∀ (j i fuel:Nat) (H:Hp) (a:List Int),i + j=rs.length→j < fuel→H0 <+: H→Own 1 H0 H t (a.map (.int .i64))→masksOk n a=true →
   ∃ H',impl_NarrowRules.l2 (callF PP orc k) k fuel t s (rs.length:Int) i n gs s H=some (.sl 1 t,H')∧H0 <+: H'∧Own 1 H0 H' t ((((rs.drop i).map R.val).foldl (ruleStep n) a).map (.int .i64)):=by
 have hrl:=hz.rr.len
 have hrl2:=hz.rl
 have hn:=hz.n4
 intro j
 induction j with
 | zero=>
  intro i fuel H a hi hf hp ho ha
  obtain ⟨fuel,rfl⟩:=Zs fuel (by omega)
  rw [List.drop_eq_nil_of_le (by omega)]
  refine ⟨H,?_,hp,ho⟩
  simp (disch:=omega) only [impl_NarrowRules.l2,impl_NarrowRules.j4,df,Zf]
 | succ j ih=>
  intro i fuel H a hi hf hp ho ha
  obtain ⟨fuel,rfl⟩:=Zs fuel (by omega)
  have hi2:i < rs.length:=by omega
  obtain ⟨l0,l1,l2⟩:=rules_at1 (pf_readsR hp hz.rr) i hi2
  have hrc:=hz.rc _ (List.getElem_mem hi2)
  have hok:ruleOkV n rs[i].val=true:=hro _ (List.getElem_mem hi2)
  obtain ⟨c1,c2,c3,c4⟩:=ruleOk_cells hok
  obtain ⟨ml4,ml16,_⟩:=masks_len ha
  have hm2:=(masksOk_iff.1 ha).2.2
  obtain ⟨d1',d2',d3'⟩:=dm_of ha
  obtain ⟨u,H1,a1,a2,a3⟩:=implRuleMasks_ok hk (kind:=rs[i].kind) (value:=rs[i].value) hn (pf_reads hp (hz.rr.cs i hi2)) (own_reads ho) (by omega) (by omega) d3'
  have e:ruleMasksS n rs[i].kind rs[i].value rs[i].cells a=ruleMasksV rs[i].kind rs[i].value (ownOf a rs[i].cells):=ruleMasks_S hok ha
  have h4:rs[i].cells.length ≤ 4:=c2
  have h1':1 ≤ rs[i].cells.length:=c3
  have hfl:(ruleMasksS n rs[i].kind rs[i].value rs[i].cells a).length=rs[i].cells.length:=by
   rw [e,(ruleMasks_ok (by rw [own_len]; exact h4)).2,own_len]
  have a3':Own 1 H H1 u ((ruleMasksS n rs[i].kind rs[i].value rs[i].cells a).map (.int .i64)):=by
   rcases a3 with ⟨_,h⟩ | h
   ·rw [h] at hfl; simp at hfl; omega
   ·exact h
  have hul:=(own_reads a3').len
  obtain ⟨H2,b1,b2,b3,b4⟩:=iRules_l3 (callF PP orc k) k (impl_NarrowRules.l2 (callF PP orc k) k fuel) (n:=n) (kind:=rs[i].kind) (value:=rs[i].value) (gs:=gs) (s:=s) (x23:=s) (x24:=(rs.length:Int)) (i:=i) (m:=a.length) (hz.rr.cs i hi2) hrc hfl (fun c hc=>by have:=c1 c hc; omega) (by omega) (own_lt' ho) rs[i].cells.length 0 k H1 a (by omega) (by omega) (hp.trans a2) a3' (own_pf ho a2) rfl
  have hst:masksOk n (ruleStep n a rs[i].val)=true:=(ruleStep_sub hok ha).ok ha
  obtain ⟨H',d1,d2,d3⟩:=ih (i + 1) fuel H2 (ruleStep n a rs[i].val) (by omega) (by omega) b2 b3 hst
  push_cast at d1
  rw [val_drop rs i hi2,List.foldl_cons]
  refine ⟨H',?_,d2,d3⟩
  simp only [Int.natCast_zero] at b1
  have hul2:(u.len:Int)=(rs[i].cells.length:Int):=by omega
  simp (disch:=omega) only [impl_NarrowRules.l2,dt,Za,Zt,Zn,Zo,l0,l1,l2,a1,AV.toS,if_true,hul2,b1,wr (n:=(i:Int) + 1),d1]
theorem implNarrowRules_ok {k:Nat} (hk:2000050 ≤ k) {H:Hp} {n:Int} {gs s ms:Sl} {given l:List Int} {rs:List R} (hz:PuzAt H n gs s given rs) (hm:Reads .i64 H ms l) (hnn:ms.nil=false) (hl:l.length ≤ 1000) (hr:∀ m ∈ l,-2 ≤ m∧m ≤ 63) :
  ∃ t H',callF PP orc k impl_NarrowRules.id [.agg [.int .i64 n,.sl 1 gs,.sl 3 s],.sl 1 ms] H=some (.sl 1 t,H')∧H <+: H'∧NilOr H H' t (rulesV n given (rs.map R.val) l):=by
 obtain ⟨k,rfl⟩:=Zs k (by omega)
 rw [impl_NarrowRules.call]
 have hn:=hz.n4
 have h1:=implPuzzleValid_ok (show 2000003 ≤ k by omega) hz.n4 hz.rg hz.gl hz.rr hz.rl hz.rc
 rw [puzzle_map] at h1
 have h2:=implMasksValid_ok (show 2000000 ≤ k by omega) (n:=n) (by omega) hm hl hr
 unfold rulesV
 cases e1:puzzleV n given (rs.map R.val) with
 | false=>
  rw [e1] at h1
  rw [iN (by simp)]
  exact ⟨Sl.none,H,by simp only [impl_NarrowRules.f,impl_NarrowRules.j0,dt,df,bt,bf,nt,nf,Za,Zy,Zx,Zt,Zf,Zn,Zz,Zi,Zo,wr,AV.toB,AV.toI,AV.toS,if_true,h1],(List.prefix_refl _),.inl ⟨rfl,rfl⟩⟩
 | true=>
  rw [e1] at h1
  cases e2:masksOk n l with
  | false=>
   rw [e2] at h2
   rw [iN (by simp)]
   exact ⟨Sl.none,H,by simp only [impl_NarrowRules.f,impl_NarrowRules.j0,dt,df,bt,bf,nt,nf,Za,Zy,Zx,Zt,Zf,Zn,Zz,Zi,Zo,wr,AV.toB,AV.toI,AV.toS,if_true,h1,h2],(List.prefix_refl _),.inl ⟨rfl,rfl⟩⟩
  | true=>
   rw [e2] at h2
   rw [ip ⟨rfl,rfl⟩]
   have h3:=Clone_own (show 1 ≤ k by omega) hm hnn hl
   have hnew:=own_new 1 H (l.map (.int .i64)) l.length (by simp)
   obtain ⟨_,_,q3⟩:=puzzleV_iff e1
   have hrl:=hz.rl
   have hrs:=hz.rr.len
   obtain ⟨H',b1,b2,b3⟩:=iRules_l2 (show 2000040 ≤ k by omega) hz q3 rs.length 0 k (H ++ [some (Blk.mk false (l.map (.int .i64)))]) l (by omega) (by omega) (List.prefix_append _ _) hnew e2
   rw [List.drop_zero] at b3
   refine ⟨_,H',?_,b2,.inr b3⟩
   simp only [Int.natCast_zero] at b1
   simp only [impl_NarrowRules.f,impl_NarrowRules.j0,impl_NarrowRules.j1,dt,df,bt,bf,nt,nf,Za,Zy,Zx,Zt,Zf,Zn,Zz,Zi,Zo,wr,AV.toB,AV.toI,AV.toS,if_true,h1,h2,h3,hrs,b1]
theorem implNarrowBy_ok {k:Nat} (hk:2000060 ≤ k) {H:Hp} {n:Int} {gs s ms:Sl} {given l:List Int} {rs:List R} (hz:PuzAt H n gs s given rs) (hm:Reads .i64 H ms l) (hnn:ms.nil=false) (hl:l.length ≤ 1000) (hr:∀ m ∈ l,-2 ≤ m∧m ≤ 63) (t:Int) :
  ∃ u H',callF PP orc k impl_NarrowBy.id [.agg [.int .i64 n,.sl 1 gs,.sl 3 s],.sl 1 ms,.int .i64 t] H=some (.sl 1 u,H')∧H <+: H'∧NilOr H H' u (narrowV n given (rs.map R.val) l t):=by
 obtain ⟨k,rfl⟩:=Zs k (by omega)
 rw [impl_NarrowBy.call]
 have hn:=hz.n4
 have h1:=implPuzzleValid_ok (show 2000003 ≤ k by omega) hz.n4 hz.rg hz.gl hz.rr hz.rl hz.rc
 rw [puzzle_map] at h1
 cases e1:puzzleV n given (rs.map R.val) with
 | false=>
  rw [e1] at h1
  have e:narrowV n given (rs.map R.val) l t=[]:=by unfold narrowV; rw [if_neg (by rw [e1]; simp)]
  rw [e]
  exact ⟨Sl.none,H,by simp only [impl_NarrowBy.f,dt,df,bt,bf,nt,nf,Za,Zy,Zx,Zt,Zf,Zn,Zz,Zi,Zo,wr,AV.toB,AV.toI,AV.toS,if_true,h1],(List.prefix_refl _),.inl ⟨rfl,rfl⟩⟩
 | true=>
  rw [e1] at h1
  by_cases t1:t=1
  ·obtain ⟨u,H',a1,a2,a3⟩:=implNarrowSingles_ok (show 2000010 ≤ k by omega) (n:=n) (by omega) hm hnn hl hr
   have e:narrowV n given (rs.map R.val) l t=singlesV n l:=by
    unfold narrowV singlesV; rw [e1]
    by_cases c:masksOk n l=true
    ·simp [c,t1]
    ·simp [c]
   rw [e]
   exact ⟨u,H',by simp only [impl_NarrowBy.f,dt,df,bt,bf,nt,nf,Za,Zy,Zx,Zt,Zf,Zn,Zz,Zi,Zo,wr,AV.toB,AV.toI,AV.toS,if_true,h1,bt t1,a1],a2,a3⟩
  by_cases t2:t=2
  ·obtain ⟨u,H',a1,a2,a3⟩:=implNarrowHidden_ok (show 2000010 ≤ k by omega) (n:=n) (by omega) hm hnn hl hr
   have e:narrowV n given (rs.map R.val) l t=hiddenV n l:=by
    unfold narrowV hiddenV; rw [e1]
    by_cases c:masksOk n l=true
    ·simp [c,t2]
    ·simp [c]
   rw [e]
   exact ⟨u,H',by simp only [impl_NarrowBy.f,dt,df,bt,bf,nt,nf,Za,Zy,Zx,Zt,Zf,Zn,Zz,Zi,Zo,wr,AV.toB,AV.toI,AV.toS,if_true,h1,bf t1,bt t2,a1],a2,a3⟩
  by_cases t3:t=3
  ·obtain ⟨u,H',a1,a2,a3⟩:=implNarrowPairs_ok (show 2000010 ≤ k by omega) (n:=n) (by omega) hm hnn hl hr
   have e:narrowV n given (rs.map R.val) l t=pairsV n l:=by
    unfold narrowV pairsV; rw [e1]
    by_cases c:masksOk n l=true
    ·simp [c,t3]
    ·simp [c]
   rw [e]
   exact ⟨u,H',by simp only [impl_NarrowBy.f,dt,df,bt,bf,nt,nf,Za,Zy,Zx,Zt,Zf,Zn,Zz,Zi,Zo,wr,AV.toB,AV.toI,AV.toS,if_true,h1,bf t1,bf t2,bt t3,a1],a2,a3⟩
  by_cases t4:t=4
  ·obtain ⟨u,H',a1,a2,a3⟩:=implNarrowRules_ok (show 2000050 ≤ k by omega) hz hm hnn hl hr
   have e:narrowV n given (rs.map R.val) l t=rulesV n given (rs.map R.val) l:=by
    unfold narrowV rulesV; rw [e1]
    by_cases c:masksOk n l=true
    ·simp [c,t4]
    ·simp [c]
   rw [e]
   exact ⟨u,H',by simp only [impl_NarrowBy.f,dt,df,bt,bf,nt,nf,Za,Zy,Zx,Zt,Zf,Zn,Zz,Zi,Zo,wr,AV.toB,AV.toI,AV.toS,if_true,h1,bf t1,bf t2,bf t3,bt t4,a1],a2,a3⟩
  have e:narrowV n given (rs.map R.val) l t=[]:=by
   unfold narrowV
   simp [t1,t2,t3,t4]
  rw [e]
  exact ⟨Sl.none,H,by simp only [impl_NarrowBy.f,dt,df,bt,bf,nt,nf,Za,Zy,Zx,Zt,Zf,Zn,Zz,Zi,Zo,wr,AV.toB,AV.toI,AV.toS,if_true,h1,bf t1,bf t2,bf t3,bf t4],(List.prefix_refl _),.inl ⟨rfl,rfl⟩⟩
theorem sameInts_l0 (rec:Rec) (k:Nat) {H:Hp} {s t:Sl} {x y:List Int} (hs:Reads .i64 H s x) (ht:Reads .i64 H t y) (hl:x.length=y.length) (h1:x.length ≤ 1000) :
  ∀ (j i fuel:Nat),i + j=x.length→j < fuel→laws_sameInts.l0 rec k fuel s t i H=some (.bool (decide (x.drop i=y.drop i)),H):=by
 have hsl:=hs.len
 have htl:=ht.len
 intro j
 induction j with
 | zero=>
  intro i fuel hi hf
  obtain ⟨fuel,rfl⟩:=Zs fuel (by omega)
  rw [List.drop_eq_nil_of_le (show x.length ≤ i by omega),List.drop_eq_nil_of_le (show y.length ≤ i by omega)]
  simp (disch:=omega) only [laws_sameInts.l0,dt,df,bt,bf,nt,nf,Za,Zy,Zx,Zt,Zf,Zn,Zz,Zi,Zo,wr,AV.toB,AV.toI,AV.toS,if_true]
  rfl
 | succ j ih=>
  intro i fuel hi hf
  obtain ⟨fuel,rfl⟩:=Zs fuel (by omega)
  have hx:i < x.length:=by omega
  have hy:i < y.length:=by omega
  have ex:x.drop i=x.getD i 0 :: x.drop (i + 1):=by
   rw [List.drop_eq_getElem_cons hx,List.getD_eq_getElem?_getD,List.getElem?_eq_getElem hx]; rfl
  have ey:y.drop i=y.getD i 0 :: y.drop (i + 1):=by
   rw [List.drop_eq_getElem_cons hy,List.getD_eq_getElem?_getD,List.getElem?_eq_getElem hy]; rfl
  rw [ex,ey]
  by_cases c:x.getD i 0=y.getD i 0
  ·have d1:=ih (i + 1) fuel (by omega) (by omega)
   push_cast at d1
   rw [show decide (x.getD i 0 :: x.drop (i + 1)=y.getD i 0 :: y.drop (i + 1))=decide (x.drop (i + 1)=y.drop (i + 1)) by rw [c]; simp,← d1]
   simp (disch:=omega) only [laws_sameInts.l0,dt,df,bt,bf,nt,nf,Za,Zy,Zx,Zt,Zf,Zn,Zz,Zi,Zo,wr,AV.toB,AV.toI,AV.toS,if_true,rdn hs,rdn ht,nf]
  ·rw [show decide (x.getD i 0 :: x.drop (i + 1)=y.getD i 0 :: y.drop (i + 1))=false from decide_eq_false fun h=>c (List.cons.inj h).1]
   simp (disch:=omega) only [laws_sameInts.l0,dt,df,bt,bf,nt,nf,Za,Zy,Zx,Zt,Zf,Zn,Zz,Zi,Zo,wr,AV.toB,AV.toI,AV.toS,if_true,rdn hs,rdn ht,nt]
theorem sameInts_ok {k:Nat} (hk:2000000 ≤ k) {H:Hp} {s t:Sl} {x y:List Int} (hs:Reads .i64 H s x) (ht:Reads .i64 H t y) (h1:x.length ≤ 1000) (h2:y.length ≤ 1000) :
  callF PP orc k laws_sameInts.id [.sl 1 s,.sl 1 t] H=some (.bool (decide (x=y)),H):=by
 obtain ⟨k,rfl⟩:=Zs k (by omega)
 rw [laws_sameInts.call]
 have hsl:=hs.len
 have htl:=ht.len
 by_cases c:x.length=y.length
 ·have d1:=sameInts_l0 (callF PP orc k) k hs ht c h1 x.length 0 k (by omega) (by omega)
  simp only [Int.natCast_zero,List.drop_zero] at d1
  rw [← d1]
  simp (disch:=omega) only [laws_sameInts.f,dt,df,bt,bf,nt,nf,Za,Zy,Zx,Zt,Zf,Zn,Zz,Zi,Zo,wr,AV.toB,AV.toI,AV.toS,if_true]
 ·rw [decide_eq_false (fun h=>c (congrArg List.length h))]
  simp (disch:=omega) only [laws_sameInts.f,dt,df,bt,bf,nt,nf,Za,Zy,Zx,Zt,Zf,Zn,Zz,Zi,Zo,wr,AV.toB,AV.toI,AV.toS,if_true]
theorem same_ok {k:Nat} (hk:2000000 ≤ k) {H:Hp} {s t:Sl} {x:List Int} (hs:Reads .i64 H s x) (ht:Reads .i64 H t x) (h1:x.length ≤ 1000) :
  callF PP orc k laws_sameInts.id [.sl 1 s,.sl 1 t] H=some (.bool true,H):=by
 rw [sameInts_ok hk hs ht h1 h1,decide_eq_true rfl]
theorem DrawNarrowBy_ok {k:Nat} (hk:2000602 ≤ k) {H:Hp} {s:Sl} {l:List Int} (hs:Reads .u8 H s l) (hb:∀ x ∈ l,0 ≤ x∧x ≤ 255) :
  ∃ n gs ss given rs t,∃ v:List Int,∃ z H',callF PP orc k spec_DrawNarrowBy.id [.sl 1 s] H=some (.tup [.agg [.int .i64 n,.sl 1 gs,.sl 3 ss],.sl 1 t,.int .i64 z],H')∧H <+: H'∧PuzB H H' n gs ss given rs∧Own 1 H H' t (v.map (.int .i64))∧v.length ≤ 17∧(∀ m ∈ v,-2 ≤ m∧m ≤ 63)∧0 ≤ z∧z ≤ 5:=by
 obtain ⟨k,rfl⟩:=Zs k (by omega)
 rw [spec_DrawNarrowBy.call]
 obtain ⟨H1,n,gs,ss,given,rs,t,v,l',p',H',a1,a2,a3,a4,a5,a6,a6',a7,a8,a9,a10,a11⟩:=open_work (show 2000601 ≤ k by omega) hs hb
 obtain ⟨w,H2,b1,b2,b3,b4,b5⟩:=pick_adv (show 1 ≤ k by omega) a4 (by omega) 6
 have hw:=b5 (by omega)
 have hav:=a7.trans b3
 have hz3:=a8.adv a6' b3
 have ho3:=b3.own (by omega) a9
 refine ⟨n,gs,ss,given,rs,t,v,w,H2,?_,hav.but.pf (Nat.le_refl _) a6 hav.le,hz3.base (by omega),⟨ho3.nn,ho3.off,Nat.le_trans (by omega) ho3.blk,ho3.get,ho3.len⟩,a10,a11,by omega,by omega⟩
 unfold spec_DrawNarrowBy.f
 rw [a1,Option.bind_some]
 simp only [AV.toP,Zo]
 rw [a2,Option.bind_some]
 simp only [AV.isTup,AV.nth,AV.isAgg,AV.cel,AV.toI,AV.toS,AV.toB,Zl,Zm,Zc,Zd,if_true,decide_true,beq_self_eq_true,Zt,Zf,Zy,Zx,Zo]
 rw [b1,Option.bind_some]
 simp only [AV.isTup,AV.nth,AV.isAgg,AV.cel,AV.toI,AV.toS,AV.toB,Zl,Zm,Zc,Zd,if_true,decide_true,beq_self_eq_true,Zt,Zf,Zy,Zx,Zo]
theorem narrow_len {n:Int} {given:List Int} {vs:List V} {l:List Int} {t:Int}:(narrowV n given vs l t).length ≤ 16:=by
 by_cases c:puzzleV n given vs=true∧masksOk n l=true
 ·obtain ⟨c1,c2,c3,c4⟩:=narrowV_cases c.1 c.2
  by_cases h1:t=1
  ·rw [h1,c1]; exact (masks_len (singlesV_good c.2).1).2.1
  ·by_cases h2:t=2
   ·rw [h2,c2]; exact (masks_len (hiddenV_good c.2).1).2.1
   ·by_cases h3:t=3
    ·rw [h3,c3]; exact (masks_len (pairsV_good c.2).1).2.1
    ·by_cases h4:t=4
     ·rw [h4,c4]; exact (masks_len (rulesV_good c.1 c.2).1).2.1
     ·unfold narrowV; rw [if_pos c,if_neg h1,if_neg h2,if_neg h3,if_neg h4]; simp
 ·unfold narrowV; rw [if_neg c]; simp
theorem NarrowBy_j1 {k:Nat} (hk:2000600 ≤ k) {H:Hp} {n t:Int} {gs ss xs x:Sl} {given v:List Int} {rs:List R} (hz:PuzAt H n gs ss given rs) (hp:puzzleV n given (rs.map R.val)=true) (hm:masksOk n v=true) (hxs:Reads .i64 H xs v) (hnn:xs.nil=false) (hx:Reads .i64 H x (narrowV n given (rs.map R.val) v t)) :
  ∃ H',laws_FnNarrowBy.j1 (callF PP orc k) k xs t x n gs ss H=some (.bool true,H'):=by
 have hn:=hz.n4
 obtain ⟨q1,q2,q3⟩:=dm_of hm
 obtain ⟨c1,c2,c3,c4⟩:=narrowV_cases hp hm
 have h16:=narrow_len (n:=n) (given:=given) (vs:=rs.map R.val) (l:=v) (t:=t)
 unfold laws_FnNarrowBy.j1
 by_cases h1:t=1
 ·subst h1
  rw [c1] at hx h16
  obtain ⟨u,H1,a1,a2,a3⟩:=implNarrowSingles_ok (show 2000010 ≤ k by omega) (n:=n) (by omega) hxs hnn (by omega) q3
  have sm:=same_ok (show 2000000 ≤ k by omega) (pf_reads a2 hx) a3.reads (by omega)
  refine ⟨H1,?_⟩
  rw [bt rfl,cond_true,a1,Option.bind_some]
  simp only [AV.isTup,AV.nth,AV.isAgg,AV.cel,AV.toI,AV.toS,AV.toB,Zl,Zm,Zc,Zd,if_true,decide_true,beq_self_eq_true,Zt,Zf,Zy,Zx,Zo]
  rw [sm,Option.bind_some]
  simp only [AV.isTup,AV.nth,AV.isAgg,AV.cel,AV.toI,AV.toS,AV.toB,Zl,Zm,Zc,Zd,if_true,decide_true,beq_self_eq_true,Zt,Zf,Zy,Zx,Zo]
 ·rw [bf h1,cond_false]
  by_cases h2:t=2
  ·subst h2
   rw [c2] at hx h16
   obtain ⟨u,H1,a1,a2,a3⟩:=implNarrowHidden_ok (show 2000010 ≤ k by omega) (n:=n) (by omega) hxs hnn (by omega) q3
   have sm:=same_ok (show 2000000 ≤ k by omega) (pf_reads a2 hx) a3.reads (by omega)
   refine ⟨H1,?_⟩
   rw [bt rfl,cond_true,a1,Option.bind_some]
   simp only [AV.isTup,AV.nth,AV.isAgg,AV.cel,AV.toI,AV.toS,AV.toB,Zl,Zm,Zc,Zd,if_true,decide_true,beq_self_eq_true,Zt,Zf,Zy,Zx,Zo]
   rw [sm,Option.bind_some]
   simp only [AV.isTup,AV.nth,AV.isAgg,AV.cel,AV.toI,AV.toS,AV.toB,Zl,Zm,Zc,Zd,if_true,decide_true,beq_self_eq_true,Zt,Zf,Zy,Zx,Zo]
  ·rw [bf h2,cond_false]
   by_cases h3:t=3
   ·subst h3
    rw [c3] at hx h16
    obtain ⟨u,H1,a1,a2,a3⟩:=implNarrowPairs_ok (show 2000010 ≤ k by omega) (n:=n) (by omega) hxs hnn (by omega) q3
    have sm:=same_ok (show 2000000 ≤ k by omega) (pf_reads a2 hx) a3.reads (by omega)
    refine ⟨H1,?_⟩
    rw [bt rfl,cond_true,a1,Option.bind_some]
    simp only [AV.isTup,AV.nth,AV.isAgg,AV.cel,AV.toI,AV.toS,AV.toB,Zl,Zm,Zc,Zd,if_true,decide_true,beq_self_eq_true,Zt,Zf,Zy,Zx,Zo]
    rw [sm,Option.bind_some]
    simp only [AV.isTup,AV.nth,AV.isAgg,AV.cel,AV.toI,AV.toS,AV.toB,Zl,Zm,Zc,Zd,if_true,decide_true,beq_self_eq_true,Zt,Zf,Zy,Zx,Zo]
   ·rw [bf h3,cond_false]
    by_cases h4:t=4
    ·subst h4
     rw [c4] at hx h16
     obtain ⟨u,H1,a1,a2,a3⟩:=implNarrowRules_ok (show 2000050 ≤ k by omega) hz hxs hnn (by omega) q3
     have sm:=same_ok (show 2000000 ≤ k by omega) (pf_reads a2 hx) a3.reads (by omega)
     refine ⟨H1,?_⟩
     rw [bt rfl,cond_true,a1,Option.bind_some]
     simp only [AV.isTup,AV.nth,AV.isAgg,AV.cel,AV.toI,AV.toS,AV.toB,Zl,Zm,Zc,Zd,if_true,decide_true,beq_self_eq_true,Zt,Zf,Zy,Zx,Zo]
     rw [sm,Option.bind_some]
     simp only [AV.isTup,AV.nth,AV.isAgg,AV.cel,AV.toI,AV.toS,AV.toB,Zl,Zm,Zc,Zd,if_true,decide_true,beq_self_eq_true,Zt,Zf,Zy,Zx,Zo]
    ·rw [bf h4,cond_false]
     have e:narrowV n given (rs.map R.val) v t=[]:=by unfold narrowV; rw [if_pos ⟨hp,hm⟩,if_neg h1,if_neg h2,if_neg h3,if_neg h4]
     rw [e] at hx
     have hl:=hx.len
     exact ⟨H,by rw [bt (show (x.len:Int)=0 by rw [hl]; rfl)]⟩
theorem NarrowBy_law {k:Nat} (hk:2000800 ≤ k) {H:Hp} {s:Sl} {l:List Int} (hs:Reads .u8 H s l) (hb:∀ x ∈ l,0 ≤ x∧x ≤ 255) :
  ∃ H',callF PP orc k laws_FnNarrowBy.id [.sl 1 s] H=some (.bool true,H'):=by
 obtain ⟨k,rfl⟩:=Zs k (by omega)
 rw [laws_FnNarrowBy.call]
 by_cases hbig:(s.len:Int) > 1048576
 ·exact ⟨H,by simp only [laws_FnNarrowBy.f,dt hbig,Zt]⟩
 ·obtain ⟨n,gs,ss,given,rs,t,v,z,H1,a1,a2,a3,a4,a5,a6,a7,a8⟩:=DrawNarrowBy_ok (show 2000602 ≤ k by omega) hs hb
  have hz:=a3.at'
  have hn:=hz.n4
  have ht:=own_reads a4
  obtain ⟨x,H2,b1,b2,b3⟩:=implNarrowBy_ok (show 2000060 ≤ k by omega) hz ht a4.nn (by omega) a6 z
  obtain ⟨y,H3,c1,c2,c3⟩:=specNarrowBy_ok (show 2000060 ≤ k by omega) (hz.pf b2) (pf_reads b2 ht) (by omega) z
  have hx3:=pf_reads c2 b3.reads
  have h16:=narrow_len (n:=n) (given:=given) (vs:=rs.map R.val) (l:=v) (t:=z)
  have sm:=same_ok (show 2000000 ≤ k by omega) hx3 (own_reads c3) (by omega)
  have hz3:=hz.pf (b2.trans c2)
  have hv:=specPuzzleValid_ok (show 2000003 ≤ k by omega) hz3.n4 hz3.rg hz3.gl hz3.rr hz3.rl hz3.rc
  rw [puzzle_map] at hv
  have hm3:=pf_reads (b2.trans c2) ht
  have h2:=specMasksValid_any (show 2000000 ≤ k by omega) (n:=n) (by omega) hm3 (by omega)
  obtain ⟨H4,d1,d2⟩:=alive_ok (show 2000002 ≤ k by omega) H3
  have hxl:=hx3.len
  have hbad:¬ (puzzleV n given (rs.map R.val)=true∧masksOk n v=true)→(x.len:Int)=0:=fun h=>by
   have e:narrowV n given (rs.map R.val) v z=[]:=by unfold narrowV; rw [if_neg h]
   rw [hxl,e]; rfl
  unfold laws_FnNarrowBy.f
  rw [df hbig,cond_false,a1,Option.bind_some]
  simp only [AV.isTup,AV.nth,AV.isAgg,AV.cel,AV.toI,AV.toS,AV.toB,Zl,Zm,Zc,Zd,if_true,decide_true,beq_self_eq_true,Zt,Zf,Zy,Zx,Zo]
  rw [b1,Option.bind_some]
  simp only [AV.isTup,AV.nth,AV.isAgg,AV.cel,AV.toI,AV.toS,AV.toB,Zl,Zm,Zc,Zd,if_true,decide_true,beq_self_eq_true,Zt,Zf,Zy,Zx,Zo]
  rw [c1,Option.bind_some]
  simp only [AV.isTup,AV.nth,AV.isAgg,AV.cel,AV.toI,AV.toS,AV.toB,Zl,Zm,Zc,Zd,if_true,decide_true,beq_self_eq_true,Zt,Zf,Zy,Zx,Zo]
  rw [sm,Option.bind_some]
  simp only [AV.isTup,AV.nth,AV.isAgg,AV.cel,AV.toI,AV.toS,AV.toB,Zl,Zm,Zc,Zd,if_true,decide_true,beq_self_eq_true,Zt,Zf,Zy,Zx,Zo]
  rw [hv,Option.bind_some]
  cases e1:puzzleV n given (rs.map R.val) with
  | false=>
   refine ⟨H4,?_⟩
   simp only [AV.isTup,AV.nth,AV.isAgg,AV.cel,AV.toI,AV.toS,AV.toB,Zl,Zm,Zc,Zd,if_true,decide_true,beq_self_eq_true,Zt,Zf,Zy,Zx,Zo]
   unfold laws_FnNarrowBy.j0
   rw [cond_true,bt (hbad fun h=>by rw [e1] at h; cases h.1),cond_true,d1,Option.bind_some]
   simp only [AV.isTup,AV.nth,AV.isAgg,AV.cel,AV.toI,AV.toS,AV.toB,Zl,Zm,Zc,Zd,if_true,decide_true,beq_self_eq_true,Zt,Zf,Zy,Zx,Zo]
  | true=>
   simp only [AV.isTup,AV.nth,AV.isAgg,AV.cel,AV.toI,AV.toS,AV.toB,Zl,Zm,Zc,Zd,if_true,decide_true,beq_self_eq_true,Zt,Zf,Zy,Zx,Zo]
   rw [h2,Option.bind_some]
   cases e2:masksOk n v with
   | false=>
    refine ⟨H4,?_⟩
    simp only [AV.isTup,AV.nth,AV.isAgg,AV.cel,AV.toI,AV.toS,AV.toB,Zl,Zm,Zc,Zd,if_true,decide_true,beq_self_eq_true,Zt,Zf,Zy,Zx,Zo]
    unfold laws_FnNarrowBy.j0
    rw [cond_true,bt (hbad fun h=>by rw [e2] at h; cases h.2),cond_true,d1,Option.bind_some]
    simp only [AV.isTup,AV.nth,AV.isAgg,AV.cel,AV.toI,AV.toS,AV.toB,Zl,Zm,Zc,Zd,if_true,decide_true,beq_self_eq_true,Zt,Zf,Zy,Zx,Zo]
   | true=>
    obtain ⟨H',f1⟩:=NarrowBy_j1 (show 2000600 ≤ k by omega) hz3 e1 e2 hm3 a4.nn hx3
    refine ⟨H',?_⟩
    simp only [AV.isTup,AV.nth,AV.isAgg,AV.cel,AV.toI,AV.toS,AV.toB,Zl,Zm,Zc,Zd,if_true,decide_true,beq_self_eq_true,Zt,Zf,Zy,Zx,Zo]
    unfold laws_FnNarrowBy.j0
    rw [cond_false]
    exact f1
end Go.Proofs.Ytjojhbdghhmeeaa.Rp
