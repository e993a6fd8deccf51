/- Texts for the row of the law FnRuleMasks, part 13: the plain machine, the program's functions on it, what they come to. No conditions. -/
import Derived.Test.YtjojhbdghhmeeaaBuFnRuleMasks12
import Derived.Test.YtjojhbdghhmeeaaBuFnRuleMasks7
import Derived.Test.YtjojhbdghhmeeaaBuFnRuleMasks11
import Derived.Test.YtjojhbdghhmeeaaBuFnRuleMasks8
import Derived.Test.YtjojhbdghhmeeaaBuFnRuleMasks10
set_option linter.unusedVariables false
set_option linter.unusedSimpArgs false
namespace Go.Proofs.Ytjojhbdghhmeeaa.Rp
open Go Go.RowKit Go.Proofs.Ytjojhbdghhmeeaa.Ab
theorem line_len {n:Int} {l:List Int} (hv:masksOk n l=true) {line:Nat} (h:(line:Int) < 2 * n):(lineCells n line).length=n.toNat:=by
 obtain ⟨hn,_⟩:=masksOk_iff.1 hv
 unfold lineCells
 rw [if_pos ⟨hn,by omega,h⟩]
 simp
theorem Pairs_l9 (rec:Rec) (k:Nat) (L0:Sl→Int→Sl→Int→Hp→An) (L1:Sl→Int→Sl→Int→Sl→Int→Hp→An) (L3:Sl→Int→Sl→Int→Sl→Int→Int→Hp→An) {H0:Hp} {ms t cs:Sl} {l:List Int} {n m:Int} {line i jj:Nat} (hmk:masksOk n l=true) (hline:(line:Int) < 2 * n) (hcb:cs.blk ≠ t.blk) (hm:M m) (hjj:jj < 1000000) :
  ∀ (j q fuel:Nat) (H:Hp) (a:List Int) (P:Nat→Nat→Prop),(q:Int) + j=n→j < fuel→H0 <+: H→Reads .i64 H cs (lineCells n line)→Own 1 H0 H t (a.map (.int .i64))→Sub l a P →
   ∃ H' a',spec_NarrowPairs.l12 rec k L0 L1 L3 fuel ms n t line cs i jj m q H=L3 ms n t line cs i ((jj:Int) + 1) H'∧H0 <+: H'∧Own 1 H0 H' t (a'.map (.int .i64))∧Adv t.blk H H'∧Sub l a' (fun x w=>P x w ∨ ∃ u:Nat,q ≤ u∧(u:Int) < n∧u ≠ i∧u ≠ jj∧x=lc n line u∧has m w=true):=by
 obtain ⟨l4,l16,lN,hN,n2,n4⟩:=masks_len hmk
 have hll:=line_len hmk hline
 intro j
 induction j with
 | zero=>
  intro q fuel H a P hq hf hp hc ho hs
  obtain ⟨fuel,rfl⟩:=Zs fuel (by omega)
  refine ⟨H,a,?_,hp,ho,Adv.refl _ _,hs.congr fun x w hx=>⟨.inl,by rintro (h | ⟨u,h1,h2,_⟩); exact h; omega⟩⟩
  simp (disch:=omega) only [spec_NarrowPairs.l12,spec_NarrowPairs.j10,dt,df,bt,bf,nt,nf,Za,Zy,Zx,Zt,Zf,Zn,Zz,Zi,Zo,wr,AV.toB,AV.toI,AV.toS,if_true]
 | succ j ih=>
  intro q fuel H a P hq hf hp hc ho hs
  obtain ⟨fuel,rfl⟩:=Zs fuel (by omega)
  have hal:=hs.len
  have htl:t.len=a.length:=by have:=ho.len; simpa using this
  have hcl:=hc.len
  have hq2:q < (lineCells n line).length:=by omega
  obtain ⟨c0,c1,c2⟩:=line_in hmk (mem_getD hq2)
  by_cases c:q ≠ i∧q ≠ jj
  ·obtain ⟨H1,d1,d2,d3,d4⟩:=own_set1 ho hp ((lineCells n line).getD q 0).toNat (by omega) (mSub (a.getD ((lineCells n line).getD q 0).toNat 0) m)
   obtain ⟨H',a',e1,e2,e3,e4,e5⟩:=ih (q + 1) fuel H1 _ _ (by omega) (by omega) d2 (d4.reads hcb hc) d3 (hs.step _ c1 hm)
   push_cast at e1
   refine ⟨H',a',?_,e2,e3,d4.trans e4,e5.congr fun x w hx=>?_⟩
   ·simp (disch:=omega) only [spec_NarrowPairs.l12,spec_NarrowPairs.j13,spec_NarrowPairs.j14,spec_NarrowPairs.j15,spec_NarrowPairs.j16,spec_NarrowPairs.j17,dt,nt,Za,Zt,Zn,Zo,rdn hc,rdn (own_reads ho),m_sub (hs.ms.at _) hm,d1,wr (n:=(q:Int) + 1),e1]
   ·constructor
    ·rintro ((h | ⟨h1,h2⟩) | ⟨u,h1,h2⟩)
     ·exact .inl h
     ·exact .inr ⟨q,Nat.le_refl _,by omega,c.1,c.2,h1,h2⟩
     ·exact .inr ⟨u,by omega,h2⟩
    ·rintro (h | ⟨u,h1,h2,h3,h4,h5,h6⟩)
     ·exact .inl (.inl h)
     ·by_cases e:u=q
      ·subst e; exact .inl (.inr ⟨h5,h6⟩)
      ·exact .inr ⟨u,by omega,h2,h3,h4,h5,h6⟩
  ·obtain ⟨H',a',e1,e2,e3,e4,e5⟩:=ih (q + 1) fuel H a P (by omega) (by omega) hp hc ho hs
   push_cast at e1
   refine ⟨H',a',?_,e2,e3,e4,e5.congr fun x w hx=>?_⟩
   ·by_cases c1':q=i
    ·simp (disch:=omega) only [spec_NarrowPairs.l12,spec_NarrowPairs.j13,spec_NarrowPairs.j14,spec_NarrowPairs.j15,spec_NarrowPairs.j16,spec_NarrowPairs.j17,dt,nf,Zt,Zf,wr (n:=(q:Int) + 1),e1]
    ·simp (disch:=omega) only [spec_NarrowPairs.l12,spec_NarrowPairs.j13,spec_NarrowPairs.j14,spec_NarrowPairs.j15,spec_NarrowPairs.j16,spec_NarrowPairs.j17,dt,nt,nf,Zt,Zf,wr (n:=(q:Int) + 1),e1]
   ·constructor
    ·rintro (h | ⟨u,h1,h2⟩)
     ·exact .inl h
     ·exact .inr ⟨u,by omega,h2⟩
    ·rintro (h | ⟨u,h1,h2,h3,h4,h5,h6⟩)
     ·exact .inl h
     ·refine .inr ⟨u,?_,h2,h3,h4,h5,h6⟩
      by_cases e:u=q
      ·subst e; exact absurd ⟨h3,h4⟩ c
      ·omega
def PQ2 (n:Int) (l:List Int) (line i j x w:Nat):Prop:=l.getD (lc n line i) 0=l.getD (lc n line j) 0∧two (l.getD (lc n line i) 0)=true∧∃ u:Nat,(u:Int) < n∧u ≠ i∧u ≠ j∧x=lc n line u∧has (l.getD (lc n line i) 0) w=true
theorem Pairs_l3 {k:Nat} (hk:2000000 ≤ k) (L0:Sl→Int→Sl→Int→Hp→An) (L1:Sl→Int→Sl→Int→Sl→Int→Hp→An) {H0:Hp} {ms t cs:Sl} {l:List Int} {n:Int} {line i:Nat} (hmk:masksOk n l=true) (hm:Reads .i64 H0 ms l) (hline:(line:Int) < 2 * n) (hi:(i:Int) < n) :
  ∀ (j q fuel:Nat) (H:Hp) (a:List Int) (P:Nat→Nat→Prop),q + j=i→j < fuel→H0 <+: H→Reads .i64 H cs (lineCells n line)→cs.blk ≠ t.blk→Own 1 H0 H t (a.map (.int .i64))→Sub l a P →
   ∃ H' a',spec_NarrowPairs.l3 (callF Ab.PP orc k) k L0 L1 fuel ms n t line cs i q H=L1 ms n t line cs ((i:Int) + 1) H'∧H0 <+: H'∧Own 1 H0 H' t (a'.map (.int .i64))∧Adv t.blk H H'∧Sub l a' (fun x w=>P x w ∨ ∃ u:Nat,q ≤ u∧u < i∧PQ2 n l line i u x w):=by
 obtain ⟨l4,l16,lN,hN,n2,n4⟩:=masks_len hmk
 have hll:=line_len hmk hline
 have hM:=masks_M hmk
 have hml:=hm.len
 intro j
 induction j with
 | zero=>
  intro q fuel H a P hq hf hp hc hcb ho hs
  obtain ⟨fuel,rfl⟩:=Zs fuel (by omega)
  refine ⟨H,a,?_,hp,ho,Adv.refl _ _,hs.congr fun x w hx=>⟨.inl,by rintro (h | ⟨u,h1,h2,_⟩); exact h; omega⟩⟩
  simp (disch:=omega) only [spec_NarrowPairs.l3,spec_NarrowPairs.j6,dt,df,bt,bf,nt,nf,Za,Zy,Zx,Zt,Zf,Zn,Zz,Zi,Zo,wr,AV.toB,AV.toI,AV.toS,if_true]
 | succ j ih=>
  intro q fuel H a P hq hf hp hc hcb ho hs
  obtain ⟨fuel,rfl⟩:=Zs fuel (by omega)
  have hcl:=hc.len
  obtain ⟨c0,c1,c2⟩:=line_in hmk (mem_getD (show q < (lineCells n line).length by omega))
  obtain ⟨f0,f1,f2⟩:=line_in hmk (mem_getD (show i < (lineCells n line).length by omega))
  have hrd:=pf_reads hp hm
  have e0:∀ z,l.getD ((lineCells n line).getD z 0).toNat 0=l.getD (lc n line z) 0:=fun z=>rfl
  by_cases ce:l.getD (lc n line i) 0=l.getD (lc n line q) 0
  ·obtain ⟨u,H1,a1,a2,a3⟩:=MaskValues_ok hk (l.getD (lc n line i) 0) H
   have hul:=(own_reads a3).len
   have hc1:=pf_reads a2 hc
   by_cases c3:(maskVals (l.getD (lc n line i) 0)).length=2
   ·obtain ⟨H2,a',b1,b2,b3,b4,b5⟩:=Pairs_l9 (callF Ab.PP orc k) k L0 L1 (spec_NarrowPairs.l3 (callF Ab.PP orc k) k L0 L1 fuel) (ms:=ms) (i:=i) (jj:=q) hmk hline hcb (hM.at (lc n line i)) (by omega) n.toNat 0 k H1 a P (by omega) (by omega) (hp.trans a2) hc1 (own_pf ho a2) hs
    obtain ⟨H',a'',d1,d2,d3,d4,d5⟩:=ih (q + 1) fuel H2 a' _ (by omega) (by omega) b2 (b4.reads hcb hc1) hcb b3 b5
    push_cast at d1
    refine ⟨H',a'',?_,d2,d3,((pf_adv a2).trans b4).trans d4,d5.congr fun x w hx=>?_⟩
    ·simp only [Int.natCast_zero] at b1
     simp (disch:=omega) only [spec_NarrowPairs.l3,spec_NarrowPairs.j5,spec_NarrowPairs.j7,spec_NarrowPairs.j8,spec_NarrowPairs.j9,spec_NarrowPairs.j10,spec_NarrowPairs.j11,dt,df,bt,bf,nt,nf,Za,Zy,Zx,Zt,Zf,Zn,Zz,Zi,Zo,wr,AV.toB,AV.toI,AV.toS,if_true,rdn hc,rdn hrd,e0,a1,hul,b1,d1]
    ·have ht:two (l.getD (lc n line i) 0)=true:=by unfold two; rw [c3]; rfl
     constructor
     ·rintro ((h | ⟨u,h1,h2,h3,h4,h5,h6⟩) | ⟨u,h1,h2⟩)
      ·exact .inl h
      ·exact .inr ⟨q,Nat.le_refl _,by omega,ce,ht,u,h2,h3,h4,h5,h6⟩
      ·exact .inr ⟨u,by omega,h2⟩
     ·rintro (h | ⟨u,h1,h2,h3,h4,z,h5,h6,h7,h8,h9⟩)
      ·exact .inl (.inl h)
      ·by_cases e:u=q
       ·subst e; exact .inl (.inr ⟨z,by omega,h5,h6,h7,h8,h9⟩)
       ·exact .inr ⟨u,by omega,h2,h3,h4,z,h5,h6,h7,h8,h9⟩
   ·obtain ⟨H',a'',d1,d2,d3,d4,d5⟩:=ih (q + 1) fuel H1 a P (by omega) (by omega) (hp.trans a2) hc1 hcb (own_pf ho a2) hs
    push_cast at d1
    refine ⟨H',a'',?_,d2,d3,(pf_adv a2).trans d4,d5.congr fun x w hx=>?_⟩
    ·simp (disch:=omega) only [spec_NarrowPairs.l3,spec_NarrowPairs.j5,spec_NarrowPairs.j7,spec_NarrowPairs.j8,spec_NarrowPairs.j9,spec_NarrowPairs.j10,spec_NarrowPairs.j11,dt,df,bt,bf,nt,nf,Za,Zy,Zx,Zt,Zf,Zn,Zz,Zi,Zo,wr,AV.toB,AV.toI,AV.toS,if_true,rdn hc,rdn hrd,e0,a1,hul,d1]
    ·have ht:¬ two (l.getD (lc n line i) 0)=true:=by unfold two; rw [beq_iff_eq]; exact c3
     constructor
     ·rintro (h | ⟨u,h1,h2⟩)
      ·exact .inl h
      ·exact .inr ⟨u,by omega,h2⟩
     ·rintro (h | ⟨u,h1,h2,h3,h4,h5⟩)
      ·exact .inl h
      ·exact absurd h4 ht
  ·obtain ⟨H',a'',d1,d2,d3,d4,d5⟩:=ih (q + 1) fuel H a P (by omega) (by omega) hp hc hcb ho hs
   push_cast at d1
   refine ⟨H',a'',?_,d2,d3,d4,d5.congr fun x w hx=>?_⟩
   ·simp (disch:=omega) only [spec_NarrowPairs.l3,spec_NarrowPairs.j5,spec_NarrowPairs.j7,spec_NarrowPairs.j8,spec_NarrowPairs.j9,spec_NarrowPairs.j10,spec_NarrowPairs.j11,dt,Za,Zt,Zn,Zo,rdn hc,rdn hrd,e0,nt ce,wr (n:=(q:Int) + 1),d1]
   ·constructor
    ·rintro (h | ⟨u,h1,h2⟩)
     ·exact .inl h
     ·exact .inr ⟨u,by omega,h2⟩
    ·rintro (h | ⟨u,h1,h2,h3,h4⟩)
     ·exact .inl h
     ·refine .inr ⟨u,?_,h2,h3,h4⟩
      by_cases e:u=q
      ·subst e; exact absurd h3 ce
      ·omega
theorem Pairs_l1 {k:Nat} (hk:2000000 ≤ k) (L0:Sl→Int→Sl→Int→Hp→An) {H0:Hp} {ms t cs:Sl} {l:List Int} {n:Int} {line:Nat} (hmk:masksOk n l=true) (hm:Reads .i64 H0 ms l) (hline:(line:Int) < 2 * n) (hcb:cs.blk ≠ t.blk) :
  ∀ (j q fuel:Nat) (H:Hp) (a:List Int) (P:Nat→Nat→Prop),(q:Int) + j=n→j < fuel→H0 <+: H→Reads .i64 H cs (lineCells n line)→Own 1 H0 H t (a.map (.int .i64))→Sub l a P →
   ∃ H' a',spec_NarrowPairs.l1 (callF Ab.PP orc k) k L0 fuel ms n t line cs q H=L0 ms n t ((line:Int) + 1) H'∧H0 <+: H'∧Own 1 H0 H' t (a'.map (.int .i64))∧Sub l a' (fun x w=>P x w ∨ ∃ i u:Nat,q ≤ i∧(i:Int) < n∧u < i∧PQ2 n l line i u x w):=by
 obtain ⟨l4,l16,lN,hN,n2,n4⟩:=masks_len hmk
 intro j
 induction j with
 | zero=>
  intro q fuel H a P hq hf hp hc ho hs
  obtain ⟨fuel,rfl⟩:=Zs fuel (by omega)
  refine ⟨H,a,?_,hp,ho,hs.congr fun x w hx=>⟨.inl,by rintro (h | ⟨i,u,h1,h2,_⟩); exact h; omega⟩⟩
  simp (disch:=omega) only [spec_NarrowPairs.l1,spec_NarrowPairs.j4,dt,df,bt,bf,nt,nf,Za,Zy,Zx,Zt,Zf,Zn,Zz,Zi,Zo,wr,AV.toB,AV.toI,AV.toS,if_true]
 | succ j ih=>
  intro q fuel H a P hq hf hp hc ho hs
  obtain ⟨fuel,rfl⟩:=Zs fuel (by omega)
  obtain ⟨H1,a',b1,b2,b3,b4,b5⟩:=Pairs_l3 hk L0 (spec_NarrowPairs.l1 (callF Ab.PP orc k) k L0 fuel) (cs:=cs) (i:=q) hmk hm hline (by omega) q 0 k H a P (by omega) (by omega) hp hc hcb ho hs
  obtain ⟨H',a'',d1,d2,d3,d4⟩:=ih (q + 1) fuel H1 a' _ (by omega) (by omega) b2 (b4.reads hcb hc) b3 b5
  push_cast at d1
  refine ⟨H',a'',?_,d2,d3,d4.congr fun x w hx=>?_⟩
  ·simp only [Int.natCast_zero] at b1
   simp (disch:=omega) only [spec_NarrowPairs.l1,dt,df,bt,bf,nt,nf,Za,Zy,Zx,Zt,Zf,Zn,Zz,Zi,Zo,wr,AV.toB,AV.toI,AV.toS,if_true,b1,d1]
  ·constructor
   ·rintro ((h | ⟨u,h1,h2,h3⟩) | ⟨i,u,h1,h2⟩)
    ·exact .inl h
    ·exact .inr ⟨q,u,Nat.le_refl _,by omega,h2,h3⟩
    ·exact .inr ⟨i,u,by omega,h2⟩
   ·rintro (h | ⟨i,u,h1,h2,h3,h4⟩)
    ·exact .inl (.inl h)
    ·by_cases e:i=q
     ·subst e; exact .inl (.inr ⟨u,by omega,h3,h4⟩)
     ·exact .inr ⟨i,u,by omega,h2,h3,h4⟩
theorem Pairs_l0 {k:Nat} (hk:2000000 ≤ k) {H0:Hp} {ms t:Sl} {l:List Int} {n:Int} (hmk:masksOk n l=true) (hm:Reads .i64 H0 ms l) :
  ∀ (j line fuel:Nat) (H:Hp) (a:List Int) (P:Nat→Nat→Prop),(line:Int) + j=2 * n→j < fuel→H0 <+: H→Own 1 H0 H t (a.map (.int .i64))→Sub l a P →
   ∃ H' a',spec_NarrowPairs.l0 (callF Ab.PP orc k) k fuel ms n t line H=some (.sl 1 t,H')∧H0 <+: H'∧Own 1 H0 H' t (a'.map (.int .i64))∧Sub l a' (fun x w=>P x w ∨ ∃ ln i u:Nat,line ≤ ln∧(ln:Int) < 2 * n∧(i:Int) < n∧u < i∧PQ2 n l ln i u x w):=by
 obtain ⟨l4,l16,lN,hN,n2,n4⟩:=masks_len hmk
 intro j
 induction j with
 | zero=>
  intro line fuel H a P hl hf hp ho hs
  obtain ⟨fuel,rfl⟩:=Zs fuel (by omega)
  refine ⟨H,a,?_,hp,ho,hs.congr fun x w hx=>⟨.inl,by rintro (h | ⟨ln,i,u,h1,h2,_⟩); exact h; omega⟩⟩
  simp (disch:=omega) only [spec_NarrowPairs.l0,spec_NarrowPairs.j2,dt,df,bt,bf,nt,nf,Za,Zy,Zx,Zt,Zf,Zn,Zz,Zi,Zo,wr,AV.toB,AV.toI,AV.toS,if_true]
 | succ j ih=>
  intro line fuel H a P hl hf hp ho hs
  obtain ⟨fuel,rfl⟩:=Zs fuel (by omega)
  obtain ⟨cs,H1,a1,a2,a3⟩:=specLineCells_own hk n (line:Int) H
  have hcb:cs.blk ≠ t.blk:=by have:=a3.blk; have:=own_lt' ho; omega
  obtain ⟨H2,a',b1,b2,b3,b4⟩:=Pairs_l1 hk (spec_NarrowPairs.l0 (callF Ab.PP orc k) k fuel) hmk hm (by omega) hcb n.toNat 0 k H1 a P (by omega) (by omega) (hp.trans a2) (own_reads a3) (own_pf ho a2) hs
  obtain ⟨H',a'',d1,d2,d3,d4⟩:=ih (line + 1) fuel H2 a' _ (by omega) (by omega) b2 b3 b4
  push_cast at d1
  refine ⟨H',a'',?_,d2,d3,d4.congr fun x w hx=>?_⟩
  ·simp only [Int.natCast_zero] at b1
   simp (disch:=omega) only [spec_NarrowPairs.l0,dt,df,bt,bf,nt,nf,Za,Zy,Zx,Zt,Zf,Zn,Zz,Zi,Zo,wr,AV.toB,AV.toI,AV.toS,if_true,a1,b1,d1]
  ·constructor
   ·rintro ((h | ⟨i,u,h1,h2,h3,h4⟩) | ⟨ln,i,u,h1,h2⟩)
    ·exact .inl h
    ·exact .inr ⟨line,i,u,Nat.le_refl _,by omega,h2,h3,h4⟩
    ·exact .inr ⟨ln,i,u,by omega,h2⟩
   ·rintro (h | ⟨ln,i,u,h1,h2,h3,h4,h5⟩)
    ·exact .inl (.inl h)
    ·by_cases e:ln=line
     ·subst e; exact .inl (.inr ⟨i,u,by omega,h3,h4,h5⟩)
     ·exact .inr ⟨ln,i,u,by omega,h2,h3,h4,h5⟩
theorem PQ_iff {n:Int} {l:List Int} {x w:Nat}:PQ n l x w ↔ ∃ ln i u:Nat,(ln:Int) < 2 * n∧(i:Int) < n∧u < i∧PQ2 n l ln i u x w:=by
 constructor
 ·rintro ⟨ln,i,j,k,h1,h2,h3,h4,h5,h6,h7,h8,h9,h10⟩
  exact ⟨ln,i,j,h1,h3,h2,h7,h8,k,h4,h5,h6,h9,h10⟩
 ·rintro ⟨ln,i,j,h1,h3,h2,h7,h8,k,h4,h5,h6,h9,h10⟩
  exact ⟨ln,i,j,k,h1,h2,h3,h4,h5,h6,h7,h8,h9,h10⟩
theorem specNarrowPairs_ok {k:Nat} (hk:2000010 ≤ k) {H:Hp} {ms:Sl} {l:List Int} {n:Int} (hb:-1 ≤ n∧n ≤ 5) (hm:Reads .i64 H ms l) (hl:l.length ≤ 1000) :
  ∃ t H',callF Ab.PP orc k spec_NarrowPairs.id [.sl 1 ms,.int .i64 n] H=some (.sl 1 t,H')∧H <+: H'∧Own 1 H H' t ((pairsV n l).map (.int .i64)):=by
 obtain ⟨k,rfl⟩:=Zs k (by omega)
 rw [spec_NarrowPairs.call]
 have h1:=specMasksValid_any (show 2000000 ≤ k by omega) hb hm hl
 unfold pairsV
 cases hv:masksOk n l with
 | false=>
  rw [hv] at h1
  rw [iN (by simp)]
  exact ⟨Sl.mk false H.length 0 0,H ++ [some (Blk.mk false [])],by simp only [spec_NarrowPairs.f,dt,df,bt,bf,nt,nf,Za,Zy,Zx,Zt,Zf,Zn,Zz,Zi,Zo,wr,AV.toB,AV.toI,AV.toS,if_true,h1],(List.prefix_append _ _),own_new 1 H [] 0 rfl⟩
 | true=>
  rw [hv] at h1
  rw [ip rfl]
  obtain ⟨l4,l16,lN,hN,n2,n4⟩:=masks_len hv
  have hM:=masks_M hv
  have h2:=l6Copy_ok (show 1 ≤ k by omega) hm hl
  have hnew:=own_new 1 H (l.map (.int .i64)) l.length (by simp)
  obtain ⟨H',a',b1,b2,b3,b4⟩:=Pairs_l0 (show 2000000 ≤ k by omega) hv hm (2 * n).toNat 0 k (H ++ [some (Blk.mk false (l.map (.int .i64)))]) l _ (by omega) (by omega) (List.prefix_append _ _) hnew (Sub.refl hM)
  have e:a'=subAll l (PQ n l):=(b4.congr fun x w hx=>(show _ ↔ PQ n l x w from by
   rw [PQ_iff]
   constructor
   ·rintro (h | ⟨ln,i,u,_,h⟩)
    ·exact h.elim
    ·exact ⟨ln,i,u,h⟩
   ·rintro ⟨ln,i,u,h⟩
    exact .inr ⟨ln,i,u,by omega,h⟩)).eq hM
  subst e
  refine ⟨_,H',?_,b2,b3⟩
  simp only [Int.natCast_zero] at b1
  simp only [spec_NarrowPairs.f,dt,df,bt,bf,nt,nf,Za,Zy,Zx,Zt,Zf,Zn,Zz,Zi,Zo,wr,AV.toB,AV.toI,AV.toS,if_true,h1,h2,b1]
theorem orFrom_has {vals:List Int} (hv:Vals vals):∀ (j i:Nat) {fl:List Int},Ms fl→i + j=vals.length→vals.length ≤ fl.length→∀ x v:Nat,has ((orFrom vals fl i j).getD x 0) v=true ↔ has (fl.getD x 0) v=true ∨ (i ≤ x∧x < i + j∧vals.getD x 0=(v:Int))
 | 0,i,fl,h,_,_,x,v=>by rw [orFrom]; constructor; exact .inl; rintro (h | h); exact h; omega
 | j + 1,i,fl,h,hi,hl,x,v=>by
  have hM:=M.pw (hv.at i).1 (hv.at i).2
  rw [orFrom,orFrom_has hv j (i + 1) (h.set i (M.or (h.at i) hM)) (by omega) (by simpa using hl)]
  by_cases e:x=i
  ·subst e
   have:(fl.set x (mOr (fl.getD x 0) (pw (vals.getD x 0)))).getD x 0=mOr (fl.getD x 0) (pw (vals.getD x 0)):=by
    rw [List.getD_eq_getElem?_getD,List.getElem?_set_self (by omega)]; rfl
   rw [this,has_or,has_pw (hv.at x).1]
   simp only [Bool.or_eq_true,decide_eq_true_eq]
   constructor
   ·rintro ((h | h) | h)
    ·exact .inl h
    ·exact .inr ⟨by omega,by omega,h.symm⟩
    ·omega
   ·rintro (h | h)
    ·exact .inl (.inl h)
    ·exact .inl (.inr h.2.2.symm)
  ·have:(fl.set i (mOr (fl.getD i 0) (pw (vals.getD i 0)))).getD x 0=fl.getD x 0:=by
    rw [List.getD_eq_getElem?_getD,List.getElem?_set_ne (Ne.symm e),← List.getD_eq_getElem?_getD]
   rw [this]
   constructor
   ·rintro (h | h)
    ·exact .inl h
    ·exact .inr ⟨by omega,by omega,h.2.2⟩
   ·rintro (h | h)
    ·exact .inl h
    ·exact .inr ⟨by omega,by omega,h.2.2⟩
def AllIn:List Int→List Int→Prop
 | [],[]=>True
 | m :: ms,w :: ws=>w ∈ maskVals m∧AllIn ms ws
 | _,_=>False
theorem AllIn.len:∀ {ms ws:List Int},AllIn ms ws→ws.length=ms.length
 | [],[],_=>rfl
 | _ :: _,_ :: _,h=>by simp [AllIn.len h.2]
 | [],_ :: _,h=>h.elim
 | _ :: _,[],h=>h.elim
theorem AllIn.vals:∀ {ms ws:List Int},AllIn ms ws→∀ w ∈ ws,1 ≤ w∧w ≤ 4
 | [],[],_,w,hw=>by cases hw
 | _ :: _,_ :: _,h,w,hw=>by
  rcases List.mem_cons.1 hw with e | e
  ·rw [e]; exact maskVals_mem h.1
  ·exact AllIn.vals h.2 w e
 | [],_ :: _,h,_,_=>h.elim
 | _ :: _,[],h,_,_=>h.elim
theorem ways_has (h:List Int→Bool):∀ (ms vals fl:List Int),Vals vals→vals.length + ms.length ≤ 4→Ms fl→vals.length + ms.length ≤ fl.length→∀ x v:Nat,x < vals.length + ms.length →
  (has ((ways h ms vals fl).getD x 0) v=true ↔ has (fl.getD x 0) v=true ∨ ∃ ws,AllIn ms ws∧h (vals ++ ws)=true∧(vals ++ ws).getD x 0=(v:Int))
 | [],vals,fl,hv,hl4,hf,hl,x,v,hx=>by
  simp only [Zm,Nat.add_zero] at hx hl
  have key:(∃ ws,AllIn [] ws∧h (vals ++ ws)=true∧(vals ++ ws).getD x 0=(v:Int)) ↔ (h vals=true∧vals.getD x 0=(v:Int)):=by
   constructor
   ·rintro ⟨ws,h1,h2,h3⟩
    cases ws with
    | nil=>rw [List.append_nil] at h2 h3; exact ⟨h2,h3⟩
    | cons w ws=>exact h1.elim
   ·rintro ⟨h1,h2⟩
    exact ⟨[],trivial,by rw [List.append_nil]; exact h1,by rw [List.append_nil]; exact h2⟩
  rw [key,ways]
  split
  ·rename_i hh
   unfold orAll
   rw [orFrom_has hv vals.length 0 hf (by omega) hl]
   constructor
   ·rintro (a | a)
    ·exact .inl a
    ·exact .inr ⟨hh,a.2.2⟩
   ·rintro (a | a)
    ·exact .inl a
    ·exact .inr ⟨by omega,by omega,a.2⟩
  ·rename_i hh
   constructor
   ·exact .inl
   ·rintro (a | a)
    ·exact a
    ·exact absurd a.1 hh
 | m :: ms,vals,fl,hv,hl4,hf,hl,x,v,hx=>by
  simp only [Zl] at hl4 hl hx
  have key:∀ (L:List Int) (fl:List Int),(∀ w ∈ L,1 ≤ w∧w ≤ 4)→Ms fl→vals.length + ms.length + 1 ≤ fl.length →
    (has ((L.foldl (fun f v=>ways h ms (vals ++ [v]) f) fl).getD x 0) v=true ↔ has (fl.getD x 0) v=true ∨ ∃ w ∈ L,∃ ws,AllIn ms ws∧h (vals ++ w :: ws)=true∧(vals ++ w :: ws).getD x 0=(v:Int)):=by
   intro L
   induction L with
   | nil=>intro fl _ _ _; simp
   | cons w L ih=>
    intro fl hL hf hl
    have hw:=hL w (by simp)
    have hv1:=hv.app (show vals.length < 4 by omega) (v:=w) ⟨by omega,hw.2⟩
    have w1:=ways_ok h ms (vals ++ [w]) fl hv1 (by simp; omega) hf
    have w2:=ways_has h ms (vals ++ [w]) fl hv1 (by simp; omega) hf (by simp; omega) x v (by simp; omega)
    rw [List.foldl_cons,ih _ (fun y hy=>hL y (by simp [hy])) w1.1 (by rw [w1.2]; exact hl),w2]
    simp only [List.append_assoc,List.singleton_append]
    constructor
    ·rintro ((a | ⟨ws,a⟩) | ⟨y,hy,ws,a⟩)
     ·exact .inl a
     ·exact .inr ⟨w,by simp,ws,a⟩
     ·exact .inr ⟨y,by simp [hy],ws,a⟩
    ·rintro (a | ⟨y,hy,ws,a⟩)
     ·exact .inl (.inl a)
     ·rcases List.mem_cons.1 hy with e | e
      ·subst e; exact .inl (.inr ⟨ws,a⟩)
      ·exact .inr ⟨y,e,ws,a⟩
  rw [ways,key (maskVals m) fl (fun w hw=>maskVals_mem hw) hf (by omega)]
  constructor
  ·rintro (a | ⟨w,hw,ws,a1,a2,a3⟩)
   ·exact .inl a
   ·exact .inr ⟨w :: ws,⟨hw,a1⟩,a2,a3⟩
  ·rintro (a | ⟨ws,a1,a2,a3⟩)
   ·exact .inl a
   ·cases ws with
    | nil=>exact a1.elim
    | cons w ws=>exact .inr ⟨w,a1.1,ws,a1.2,a2,a3⟩
theorem has_zero (v:Nat):has 0 v=false:=by unfold has; simp
theorem ruleMasks_has {kind value:Int} {own:List Int} (hl:own.length ≤ 4) (x v:Nat) (hx:x < own.length) :
  has ((ruleMasksV kind value own).getD x 0) v=true ↔ ∃ ws,AllIn own ws∧holdsV kind value ws=true∧ws.getD x 0=(v:Int):=by
 unfold ruleMasksV
 rw [ways_has _ own [] _ ⟨by simp,fun v hv=>by cases hv⟩ (by simpa using hl) (Ms.zeros _) (by simp) x v (by simpa using hx)]
 have e:(List.replicate own.length (0:Int)).getD x 0=0:=by simp [List.getD_eq_getElem?_getD,hx]
 rw [e,has_zero]
 simp
theorem ruleMasks_ok {kind value:Int} {own:List Int} (hl:own.length ≤ 4):Ms (ruleMasksV kind value own)∧(ruleMasksV kind value own).length=own.length:=by
 have:=ways_ok (holdsV kind value) own [] (List.replicate own.length 0) ⟨by simp,fun v hv=>by cases hv⟩ (by simpa using hl) (Ms.zeros _)
 exact ⟨this.1,this.2.trans (by simp)⟩
theorem ne_zero_has {m:Int} (hm:M m):m ≠ 0 ↔ ∃ v:Nat,has m v=true:=by
 constructor
 ·intro h
  apply Classical.byContradiction
  intro hc
  apply h
  refine m_ext hm ⟨by decide,by decide⟩ fun v _=>?_
  rw [has_zero]
  cases e:has m v with
  | false=>rfl
  | true=>exact absurd ⟨v,e⟩ hc
 ·rintro ⟨v,hv⟩ e
  rw [e,has_zero] at hv; cases hv
theorem tab_mv:∀ m:Nat,m < 16→∀ w:Nat,w < 6→((maskVals ((2 * m:Nat):Int)).contains (w:Int)=(decide (1 ≤ w) && (2 * m).testBit w)):=by decide +kernel
theorem mem_maskVals {m w:Int} (hm:0 ≤ m∧m ≤ 30) (he:m.tmod 2=0):w ∈ maskVals m ↔ (1 ≤ w∧w ≤ 4)∧has m w.toNat=true:=by
 obtain ⟨a,ha⟩:∃ a:Nat,m=((2 * a:Nat):Int):=⟨(m / 2).toNat,by rw [Int.tmod_eq_emod_of_nonneg hm.1] at he; omega⟩
 have ha16:a < 16:=by omega
 by_cases hw:1 ≤ w∧w ≤ 4
 ·obtain ⟨b,rfl⟩:=Int.eq_ofNat_of_zero_le (show 0 ≤ w by omega)
  have:=tab_mv a ha16 b (by omega)
  rw [← ha] at this
  rw [← List.contains_iff_mem,this]
  have h1:1 ≤ b:=by omega
  have e:has m ((b:Nat):Int).toNat=(2 * a).testBit b:=by unfold has; rw [ha,Int.toNat_natCast,Int.toNat_natCast]
  rw [e]
  simp [h1,hw]
 ·constructor
  ·intro h; exact absurd (maskVals_mem h) hw
  ·intro h; exact absurd h.1 hw
def Le (g' g:List Int):Prop:=g'.length=g.length∧∀ i:Nat,g'.getD i 0=0 ∨ g'.getD i 0=g.getD i 0
theorem Le.refl (g:List Int):Le g g:=⟨rfl,fun _=>.inr rfl⟩
theorem Le.trans {a b c:List Int} (h:Le a b) (h':Le b c):Le a c:=⟨h.1.trans h'.1,fun i=>by
 rcases h.2 i with e | e
 ·exact .inl e
 ·rw [e]; exact h'.2 i⟩
theorem Le.gv {g' g:List Int} (h:Le g' g) (c:Int):gv g' c=0 ∨ gv g' c=gv g c:=h.2 c.toNat
theorem getD_set {l:List Int} {i j:Nat} {v:Int}:(l.set i v).getD j 0=if i=j∧i < l.length then v else l.getD j 0:=by
 rw [List.getD_eq_getElem?_getD,List.getElem?_set]
 by_cases e:i=j
 ·subst e
  by_cases h:i < l.length
  ·simp [h]
  ·simp [h,List.getD_eq_getElem?_getD,List.getElem?_eq_none (Nat.le_of_not_lt h)]
 ·simp [e]
theorem AllIn.mono:∀ {ms ms' ws:List Int},ms.length=ms'.length→(∀ i,i < ms.length→∀ w,w ∈ maskVals (ms.getD i 0)→w ∈ maskVals (ms'.getD i 0))→AllIn ms ws→AllIn ms' ws
 | [],[],[],_,_,_=>trivial
 | m :: ms,m' :: ms',w :: ws,hl,hs,h=>⟨hs 0 (by simp) w h.1,AllIn.mono (by simpa using hl) (fun i hi w hw=>hs (i + 1) (by simpa using hi) w hw) h.2⟩
 | [],_ :: _,_,hl,_,_=>by simp at hl
 | _ :: _,[],_,hl,_,_=>by simp at hl
 | [],[],_ :: _,_,_,h=>h.elim
 | _ :: _,_ :: _,[],_,_,h=>h.elim

theorem ext_getD {a b:List Int} (hl:a.length=b.length) (h:∀ i,i < a.length→a.getD i 0=b.getD i 0):a=b:=by
 apply List.ext_getElem hl
 intro i h1 h2
 have:=h i h1
 rw [List.getD_eq_getElem?_getD,List.getElem?_eq_getElem h1,List.getD_eq_getElem?_getD,List.getElem?_eq_getElem h2] at this
 exact this
theorem Le.up {g x:List Int} (h:Le g x) {i:Nat} (hi:i < g.length):Le (g.set i (x.getD i 0)) x:=⟨by simpa using h.1,fun j=>by
 rw [getD_set]
 split
 ·rename_i e; right; rw [e.1]
 ·exact h.2 j⟩
theorem Le.set {g:List Int} {i:Nat} (h0:g.getD i 0=0) (v:Int):Le g (g.set i v):=⟨by simp,fun j=>by
 rw [getD_set]
 split
 ·rename_i e; left; rw [← e.1]; exact h0
 ·exact .inr rfl⟩
theorem puzzleV_grid {n:Int} {given:List Int} {vs:List V} (h:puzzleV n given vs=true):gridOk given n=true∧vs.all (ruleOkV n)=true:=by
 unfold puzzleV at h
 simp only [Bool.and_eq_true] at h
 exact ⟨h.1,h.2.2⟩


theorem maskOk_iff {n m:Int}:maskOk n m=true ↔ (0 ≤ m∧m ≤ topMask n)∧m.tmod 2=0:=by
 unfold maskOk
 simp
theorem tab_has0:∀ a:Nat,a < 32→((a:Int)).tmod 2=0→a.testBit 0=false:=by decide +kernel
theorem mv_has {n m:Int} (hm:maskOk n m=true) (v:Nat):has m v=true ↔ (v:Int) ∈ maskVals m:=by
 obtain ⟨h1,h2⟩:=maskOk_iff.1 hm
 have ht:=topMask_le n
 have hM:=maskOk_M hm
 rw [mem_maskVals ⟨h1.1,by omega⟩ h2,Int.toNat_natCast]
 constructor
 ·intro h
  refine ⟨?_,h⟩
  by_cases h5:5 ≤ v
  ·rw [has_big hM h5] at h; cases h
  ·by_cases h0:v=0
   ·subst h0
    obtain ⟨a,rfl,ha⟩:=hM.nat
    unfold has at h
    rw [Int.toNat_natCast,tab_has0 a ha h2] at h; cases h
   ·omega
 ·intro h; exact h.2
def InM (l g:List Int):Prop:=∀ i,i < g.length→has (l.getD i 0) (g.getD i 0).toNat=true
theorem masks_at {n:Int} {l:List Int} (h:masksOk n l=true) {i:Nat} (hi:i < l.length):maskOk n (l.getD i 0)=true:=(masksOk_iff.1 h).2.1 _ (mem_getD hi)
def cntM (m:Int):Nat:=(maskVals m).length
def total:List Int→Nat
 | []=>0
 | m :: l=>cntM m + total l
def SubM (a b:List Int):Prop:=a.length=b.length∧∀ i v:Nat,i < b.length→has (a.getD i 0) v=true→has (b.getD i 0) v=true
theorem SubM.refl (a:List Int):SubM a a:=⟨rfl,fun _ _ _ h=>h⟩
theorem SubM.trans {a b c:List Int} (h:SubM a b) (h':SubM b c):SubM a c:=⟨h.1.trans h'.1,fun i v hi hv=>h'.2 i v hi (h.2 i v (by rw [h'.1]; exact hi) hv)⟩
theorem InM.up {a b g:List Int} (h:InM a g) (hs:SubM a b) (hl:g.length=b.length):InM b g:=fun i hi=>hs.2 i _ (by omega) (h i hi)
theorem or_of_sub {a b:Nat} (h:∀ v:Nat,a.testBit v=true→b.testBit v=true):a ||| b=b:=by
 refine Nat.eq_of_testBit_eq fun v=>?_
 rw [Nat.testBit_or]
 cases e:a.testBit v with
 | false=>simp
 | true=>rw [h v e]; rfl
theorem tab_cnt:∀ a:Nat,a < 16→∀ b:Nat,b < 16→(2 * a) ||| (2 * b)=2 * b→(cntM ((2 * a:Nat):Int) ≤ cntM ((2 * b:Nat):Int)∧(cntM ((2 * a:Nat):Int)=cntM ((2 * b:Nat):Int)→a=b)):=by decide +kernel
theorem tab_even:∀ a:Nat,a < 32→∀ b:Nat,b < 32→a ||| b=b→((b:Int)).tmod 2=0→((a:Int)).tmod 2=0:=by decide +kernel
theorem mask_sub {n a b:Int} (ha:M a) (hb:maskOk n b=true) (h:∀ v:Nat,has a v=true→has b v=true):maskOk n a=true:=by
 obtain ⟨h1,h2⟩:=maskOk_iff.1 hb
 have hM:=maskOk_M hb
 obtain ⟨x,rfl,hx⟩:=ha.nat
 obtain ⟨y,rfl,hy⟩:=hM.nat
 have e:x ||| y=y:=or_of_sub fun v hv=>h v (by unfold has; rw [Int.toNat_natCast]; exact hv)
 have hle:x ≤ y:=by rw [← e]; exact Nat.left_le_or
 exact maskOk_iff.2 ⟨⟨by omega,by omega⟩,tab_even x hx y hy e h2⟩
theorem cnt_sub {n a b:Int} (ha:maskOk n a=true) (hb:maskOk n b=true) (h:∀ v:Nat,has a v=true→has b v=true):cntM a ≤ cntM b∧(cntM a=cntM b→a=b):=by
 obtain ⟨h1,h2⟩:=maskOk_iff.1 ha
 obtain ⟨h3,h4⟩:=maskOk_iff.1 hb
 have ht:=topMask_le n
 obtain ⟨x,hx,hx16⟩:∃ x:Nat,a=((2 * x:Nat):Int)∧x < 16:=⟨(a / 2).toNat,by rw [Int.tmod_eq_emod_of_nonneg h1.1] at h2; omega,by omega⟩
 obtain ⟨y,hy,hy16⟩:∃ y:Nat,b=((2 * y:Nat):Int)∧y < 16:=⟨(b / 2).toNat,by rw [Int.tmod_eq_emod_of_nonneg h3.1] at h4; omega,by omega⟩
 subst hx; subst hy
 have e:(2 * x) ||| (2 * y)=2 * y:=or_of_sub fun v hv=>by
  have:=h v (by unfold has; rw [Int.toNat_natCast]; exact hv)
  unfold has at this
  rw [Int.toNat_natCast] at this; exact this
 obtain ⟨q1,q2⟩:=tab_cnt x hx16 y hy16 e
 exact ⟨q1,fun h=>by rw [q2 h]⟩
theorem total_sub {n:Int}:∀ (a b:List Int),(∀ m ∈ a,maskOk n m=true)→(∀ m ∈ b,maskOk n m=true)→SubM a b→total a ≤ total b∧(total a=total b→a=b)
 | [],[],_,_,_=>⟨Nat.le_refl _,fun _=>rfl⟩
 | [],_ :: _,_,_,h=>by have:=h.1; simp at this
 | _ :: _,[],_,_,h=>by have:=h.1; simp at this
 | x :: a,y :: b,ha,hb,h=>by
  have h0:=cnt_sub (ha x (by simp)) (hb y (by simp)) (fun v hv=>by have:=h.2 0 v (by simp) (by simpa using hv); simpa using this)
  have ih:=total_sub a b (fun m hm=>ha m (List.mem_cons_of_mem _ hm)) (fun m hm=>hb m (List.mem_cons_of_mem _ hm)) ⟨by have:=h.1; simpa using this,fun i v hi hv=>by
   have:=h.2 (i + 1) v (by simp; omega) (by simpa using hv); simpa using this⟩
  simp only [total]
  refine ⟨by omega,fun he=>?_⟩
  rw [h0.2 (by omega),ih.2 (by omega)]
theorem masks_total {n:Int} {a b:List Int} (ha:masksOk n a=true) (hb:masksOk n b=true) (h:SubM a b):total a ≤ total b∧(a ≠ b→total a < total b):=by
 obtain ⟨h1,h2⟩:=total_sub a b (masksOk_iff.1 ha).2.1 (masksOk_iff.1 hb).2.1 h
 exact ⟨h1,fun hne=>by rcases Nat.lt_or_eq_of_le h1 with e | e; exact e; exact absurd (h2 e) hne⟩
theorem Sub.subM {l l':List Int} {P:Nat→Nat→Prop} (h:Sub l l' P):SubM l' l:=⟨h.len,fun i v hi hv=>((h.has i v hi).1 hv).1⟩
theorem masks_subM {n:Int} {a b:List Int} (ha:Ms a) (hb:masksOk n b=true) (h:SubM a b):masksOk n a=true:=by
 obtain ⟨h1,h2,h3⟩:=masksOk_iff.1 hb
 refine masksOk_iff.2 ⟨h1,fun m hm=>?_,by rw [h.1]; exact h3⟩
 obtain ⟨i,hi,rfl⟩:=List.getElem_of_mem hm
 have e:a.getD i 0=a[i]:=by simp [List.getD_eq_getElem?_getD,hi]
 have hib:i < b.length:=by rw [← h.1]; exact hi
 rw [← e]
 exact mask_sub (ha.at i) (masks_at hb hib) fun v hv=>h.2 i v hib hv
theorem Sub.ok {n:Int} {l l':List Int} {P:Nat→Nat→Prop} (h:Sub l l' P) (hl:masksOk n l=true):masksOk n l'=true:=masks_subM h.ms hl h.subM
theorem tab_cntn:∀ n:Nat,n < 5→∀ m:Nat,m < 32→(2 ≤ n∧(m:Int) ≤ topMask n)→cntM m ≤ n:=by decide +kernel
theorem cntM_n {n m:Int} (hn:2 ≤ n∧n ≤ 4) (h:maskOk n m=true):cntM m ≤ n.toNat:=by
 have hM:=maskOk_M h
 obtain ⟨h1,h2⟩:=maskOk_iff.1 h
 obtain ⟨a,rfl,ha⟩:=hM.nat
 exact tab_cntn n.toNat (by omega) a ha ⟨by omega,by rw [show ((n.toNat:Nat):Int)=n by omega]; exact h1.2⟩
theorem total_n {n:Int} (hn:2 ≤ n∧n ≤ 4):∀ (l:List Int),(∀ m ∈ l,maskOk n m=true)→total l ≤ n.toNat * l.length
 | [],_=>by simp [total]
 | m :: l,h=>by
  have h0:=cntM_n hn (h m (by simp))
  have ih:=total_n hn l fun x hx=>h x (List.mem_cons_of_mem _ hx)
  simp only [total,Zl,Nat.mul_succ]
  omega
theorem total_le {n:Int} {l:List Int} (h:masksOk n l=true):total l ≤ 64:=by
 obtain ⟨hn,h2,h3⟩:=masksOk_iff.1 h
 have:=total_n hn l h2
 have hl:=masks_len h
 have:n=2 ∨ n=3 ∨ n=4:=by omega
 rcases this with rfl | rfl | rfl <;> simp at * <;> omega
/-! ### Rounds -/
def nextFrom (N:List Int→Int→List Int) (l:List Int):Nat→Int→Option (Int × List Int)
 | 0,_=>none
 | j + 1,t=>if N l t=l then nextFrom N l j (t + 1) else some (t,N l t)
theorem next_none {N:List Int→Int→List Int} {l:List Int}:∀ (j:Nat) (t:Int),nextFrom N l j t=none ↔ ∀ u,t ≤ u→u < t + j→N l u=l
 | 0,t=>by simp [nextFrom]; intro u; omega
 | j + 1,t=>by
  rw [nextFrom]
  split
  ·rename_i e
   rw [next_none j (t + 1)]
   constructor
   ·intro h u h1 h2
    by_cases hu:u=t
    ·rw [hu]; exact e
    ·exact h u (by omega) (by omega)
   ·intro h u h1 h2; exact h u (by omega) (by omega)
  ·rename_i e
   constructor
   ·intro h; cases h
   ·intro h; exact absurd (h t (by omega) (by omega)) e
theorem next_some {N:List Int→Int→List Int} {l:List Int}:∀ (j:Nat) (t:Int) {u:Int} {l':List Int},nextFrom N l j t=some (u,l')→(t ≤ u∧u < t + j)∧l'=N l u∧l' ≠ l∧∀ w,t ≤ w→w < u→N l w=l
 | 0,t,u,l',h=>by cases h
 | j + 1,t,u,l',h=>by
  rw [nextFrom] at h
  split at h
  ·rename_i e
   obtain ⟨h1,h2,h3,h4⟩:=next_some j (t + 1) h
   refine ⟨by omega,h2,h3,fun w hw1 hw2=>?_⟩
   by_cases hu:w=t
   ·rw [hu]; exact e
   ·exact h4 w (by omega) hw2
  ·rename_i e
   simp only [Option.some.injEq,Prod.mk.injEq] at h
   obtain ⟨rfl,rfl⟩:=h
   exact ⟨by omega,rfl,e,fun w h1 h2=>by omega⟩
def stepsV (N:List Int→Int→List Int) (most:Nat):Nat→List Int→List (Int × List Int)
 | 0,_=>[]
 | F + 1,l=>match nextFrom N l most 1 with
  | none=>[]
  | some (t,l')=>(t,l') :: stepsV N most F l'
def lastV:List (Int × List Int)→List Int→List Int
 | [],l=>l
 | x :: r,_=>lastV r x.2
def Good (N:List Int→Int→List Int) (n:Int) (most:Nat):Prop:=∀ l t,masksOk n l=true→1 ≤ t→t < 1 + (most:Int)→masksOk n (N l t)=true∧SubM (N l t) l
theorem next_good {N:List Int→Int→List Int} {n:Int} {most:Nat} (hN:Good N n most) {l:List Int} (hl:masksOk n l=true) {t:Int} {l':List Int} (h:nextFrom N l most 1=some (t,l')):masksOk n l'=true∧SubM l' l∧total l' < total l:=by
 obtain ⟨h1,h2,h3,_⟩:=next_some _ _ h
 obtain ⟨a,b⟩:=hN l t hl h1.1 h1.2
 subst h2
 exact ⟨a,b,(masks_total a hl b).2 h3⟩
theorem steps_fuel {N:List Int→Int→List Int} {n:Int} {most:Nat} (hN:Good N n most):∀ (F F':Nat) (l:List Int),masksOk n l=true→total l < F→total l < F'→stepsV N most F l=stepsV N most F' l
 | 0,_,_,_,h,_=>by omega
 | _ + 1,0,_,_,_,h=>by omega
 | F + 1,F' + 1,l,hl,h,h'=>by
  rw [stepsV,stepsV]
  cases e:nextFrom N l most 1 with
  | none=>rfl
  | some x=>
   obtain ⟨t,l'⟩:=x
   obtain ⟨a,b,c⟩:=next_good hN hl e
   simp only
   rw [steps_fuel hN F F' l' a (by omega) (by omega)]
def runS (N:List Int→Int→List Int) (most:Nat) (l:List Int):List (Int × List Int):=stepsV N most (total l + 1) l
theorem runS_none {N:List Int→Int→List Int} {most:Nat} {l:List Int} (h:nextFrom N l most 1=none):runS N most l=[]:=by
 unfold runS; rw [stepsV,h]
theorem runS_some {N:List Int→Int→List Int} {n:Int} {most:Nat} (hN:Good N n most) {l:List Int} (hl:masksOk n l=true) {t:Int} {l':List Int} (h:nextFrom N l most 1=some (t,l')):runS N most l=(t,l') :: runS N most l':=by
 unfold runS
 rw [stepsV,h]
 simp only
 obtain ⟨a,b,c⟩:=next_good hN hl h
 rw [steps_fuel hN _ (total l' + 1) l' a (by omega) (by omega)]
theorem runS_ind {N:List Int→Int→List Int} {n:Int} {most:Nat} (hN:Good N n most) {C:List Int→List (Int × List Int)→Prop} (h0:∀ l,masksOk n l=true→nextFrom N l most 1=none→C l []) (h1:∀ l t l',masksOk n l=true→masksOk n l'=true→SubM l' l→total l' < total l→nextFrom N l most 1=some (t,l')→C l' (runS N most l')→C l ((t,l') :: runS N most l')) :
  ∀ (F:Nat) (l:List Int),masksOk n l=true→total l < F→C l (runS N most l)
 | 0,_,_,h=>by omega
 | F + 1,l,hl,h=>by
  cases e:nextFrom N l most 1 with
  | none=>rw [runS_none e]; exact h0 l hl e
  | some x=>
   obtain ⟨t,l'⟩:=x
   obtain ⟨a,b,c⟩:=next_good hN hl e
   rw [runS_some hN hl e]
   exact h1 l t l' hl a b c e (runS_ind hN h0 h1 F l' a (by omega))
theorem run_end {N:List Int→Int→List Int} {n:Int} {most:Nat} (hN:Good N n most) {l:List Int} (hl:masksOk n l=true):masksOk n (lastV (runS N most l) l)=true∧SubM (lastV (runS N most l) l) l∧nextFrom N (lastV (runS N most l) l) most 1=none∧(runS N most l).length + total (lastV (runS N most l) l) ≤ total l:=by
 refine runS_ind hN (C:=fun l r=>masksOk n (lastV r l)=true∧SubM (lastV r l) l∧nextFrom N (lastV r l) most 1=none∧r.length + total (lastV r l) ≤ total l) ?_ ?_ (total l + 1) l hl (by omega)
 ·intro l hl e
  exact ⟨hl,SubM.refl l,e,by simp [lastV]⟩
 ·intro l t l' hl hl' hs ht e h
  refine ⟨h.1,h.2.1.trans hs,h.2.2.1,?_⟩
  have:=h.2.2.2
  simp only [lastV,Zl]
  omega
theorem AllIn_pt:∀ (ms ws:List Int),AllIn ms ws ↔ ws.length=ms.length∧∀ i,i < ms.length→ws.getD i 0 ∈ maskVals (ms.getD i 0)
 | [],[]=>by simp [AllIn]
 | [],w :: ws=>by simp [AllIn]
 | m :: ms,[]=>by simp [AllIn]
 | m :: ms,w :: ws=>by
  show (w ∈ maskVals m∧AllIn ms ws) ↔ _
  rw [AllIn_pt ms ws]
  constructor
  ·rintro ⟨h1,h2,h3⟩
   refine ⟨by simpa using h2,fun i hi=>?_⟩
   cases i with
   | zero=>simpa using h1
   | succ i=>simpa using h3 i (by simpa using hi)
  ·rintro ⟨h1,h2⟩
   refine ⟨by simpa using h2 0 (by simp),by simpa using h1,fun i hi=>?_⟩
   simpa using h2 (i + 1) (by simpa using hi)
theorem own_len (masks cells:List Int):(ownOf masks cells).length=cells.length:=by simp [ownOf]
theorem own_at {masks cells:List Int} {i:Nat} (hi:i < cells.length):(ownOf masks cells).getD i 0=masks.getD (cells.getD i 0).toNat 0:=by
 unfold ownOf
 rw [List.getD_eq_getElem?_getD,List.getElem?_map,List.getElem?_eq_getElem hi,List.getD_eq_getElem?_getD (l:=cells),List.getElem?_eq_getElem hi]; rfl
theorem cells_ne {n:Int} {r:V} (h:ruleOkV n r=true) {a b:Nat} (ha:a < r.2.1.length) (hb:b < r.2.1.length) (hab:a ≠ b):(r.2.1.getD a 0).toNat ≠ (r.2.1.getD b 0).toNat:=by
 obtain ⟨c1,_⟩:=ruleOk_cells h
 unfold ruleOkV ruleOk at h
 rw [Bool.and_eq_true] at h
 have hd:∀ a b,a < b→b < r.2.1.length→r.2.1.getD a 0 ≠ r.2.1.getD b 0:=fun a b h1 h2 he=>by
  have:=(cellsOk_at _ _ h.1 b (by omega) (by omega)).2
  rw [← he,← Bool.not_eq_true,List.contains_iff_mem] at this
  apply this
  have:(r.2.1.take b).getD a 0=r.2.1.getD a 0:=by
   rw [List.getD_eq_getElem?_getD,List.getElem?_take,if_pos h1,← List.getD_eq_getElem?_getD]
  rw [← this]
  exact mem_getD (by rw [List.length_take]; omega)
 have p1:=c1 _ (mem_getD ha)
 have p2:=c1 _ (mem_getD hb)
 rcases Nat.lt_or_gt_of_ne hab with e | e
 ·have:=hd a b e hb; omega
 ·have:=hd b a e ha; omega
theorem setAll_at {cells found:List Int}:∀ (j i:Nat) (l:List Int),i + j ≤ cells.length→(∀ a b,a < cells.length→b < cells.length→a ≠ b→(cells.getD a 0).toNat ≠ (cells.getD b 0).toNat)→(∀ a,a < cells.length→(cells.getD a 0).toNat < l.length) →
  (setAll cells l found i j).length=l.length∧(∀ u,i ≤ u→u < i + j→(setAll cells l found i j).getD (cells.getD u 0).toNat 0=found.getD u 0)∧(∀ x,(∀ u,i ≤ u→u < i + j→(cells.getD u 0).toNat ≠ x)→(setAll cells l found i j).getD x 0=l.getD x 0)
 | 0,i,l,_,_,_=>⟨rfl,fun u h1 h2=>by omega,fun x _=>rfl⟩
 | j + 1,i,l,hi,hd,hl=>by
  obtain ⟨a,b,c⟩:=setAll_at (found:=found) j (i + 1) (l.set (cells.getD i 0).toNat (found.getD i 0)) (by omega) hd (fun x hx=>by rw [List.length_set]; exact hl x hx)
  rw [setAll]
  refine ⟨by rw [a,List.length_set],fun u h1 h2=>?_,fun x hx=>?_⟩
  ·by_cases e:u=i
   ·subst e
    rw [c _ (fun w h3 h4=>hd w u (by omega) (by omega) (by omega)),getD_set,if_pos ⟨rfl,hl u (by omega)⟩]
   ·exact b u (by omega) (by omega)
  ·rw [c x (fun u h1 h2=>hx u (by omega) (by omega)),getD_set,if_neg (fun h=>hx i (Nat.le_refl _) (by omega) h.1)]
theorem ruleMasks_S {n:Int} {r:V} {l:List Int} (hr:ruleOkV n r=true) (hl:masksOk n l=true):ruleMasksS n r.1 r.2.2 r.2.1 l=ruleMasksV r.1 r.2.2 (ownOf l r.2.1):=by
 unfold ruleMasksS
 rw [if_pos ⟨by unfold ruleOkV at hr; rw [hr,decide_eq_true (masksOk_iff.1 hl).1]; rfl,hl⟩]
def RS (l:List Int) (r:V) (x v:Nat):Prop:=∃ u,u < r.2.1.length∧(r.2.1.getD u 0).toNat=x∧¬ ∃ ws,AllIn (ownOf l r.2.1) ws∧holdsV r.1 r.2.2 ws=true∧ws.getD u 0=(v:Int)
theorem rule_cells {n:Int} {r:V} {l:List Int} (hr:ruleOkV n r=true) (hl:masksOk n l=true) {u:Nat} (hu:u < r.2.1.length):(r.2.1.getD u 0).toNat < l.length:=by
 obtain ⟨c1,_⟩:=ruleOk_cells hr
 have:=c1 _ (mem_getD hu)
 have:=(masksOk_iff.1 hl).2.2
 omega
theorem ruleStep_sub {n:Int} {r:V} {l:List Int} (hr:ruleOkV n r=true) (hl:masksOk n l=true):Sub l (ruleStep n l r) (RS l r):=by
 obtain ⟨c1,c2,c3,c4⟩:=ruleOk_cells hr
 have hol:=own_len l r.2.1
 have hrm:=ruleMasks_ok (kind:=r.1) (value:=r.2.2) (own:=ownOf l r.2.1) (by omega)
 unfold ruleStep
 rw [ruleMasks_S hr hl]
 obtain ⟨s1,s2,s3⟩:=setAll_at (found:=ruleMasksV r.1 r.2.2 (ownOf l r.2.1)) r.2.1.length 0 l (by omega) (fun a b ha hb=>cells_ne hr ha hb) (fun a ha=>rule_cells hr hl ha)
 have hM:=masks_M hl
 have at1:∀ u,u < r.2.1.length→∀ v:Nat,has ((setAll r.2.1 l (ruleMasksV r.1 r.2.2 (ownOf l r.2.1)) 0 r.2.1.length).getD (r.2.1.getD u 0).toNat 0) v=true ↔ ∃ ws,AllIn (ownOf l r.2.1) ws∧holdsV r.1 r.2.2 ws=true∧ws.getD u 0=(v:Int):=fun u hu v=>by
  rw [s2 u (by omega) (by omega)]
  exact ruleMasks_has (by omega) u v (by omega)
 refine ⟨s1,fun m hm=>?_,fun x v hx=>?_⟩
 ·obtain ⟨i,hi,rfl⟩:=List.getElem_of_mem hm
  have e:(setAll r.2.1 l (ruleMasksV r.1 r.2.2 (ownOf l r.2.1)) 0 r.2.1.length).getD i 0=(setAll r.2.1 l (ruleMasksV r.1 r.2.2 (ownOf l r.2.1)) 0 r.2.1.length)[i]:=by simp [List.getD_eq_getElem?_getD,hi]
  rw [← e]
  by_cases c:∃ u,u < r.2.1.length∧(r.2.1.getD u 0).toNat=i
  ·obtain ⟨u,hu,rfl⟩:=c
   rw [s2 u (by omega) (by omega)]
   exact hrm.1.at u
  ·rw [s3 i (fun u _ h2 h3=>c ⟨u,by omega,h3⟩)]
   exact hM.at i
 ·by_cases c:∃ u,u < r.2.1.length∧(r.2.1.getD u 0).toNat=x
  ·obtain ⟨u,hu,rfl⟩:=c
   rw [at1 u hu v]
   constructor
   ·rintro ⟨ws,h1,h2,h3⟩
    have:=((AllIn_pt _ _).1 h1).2 u (by omega)
    rw [own_at hu,h3] at this
    refine ⟨(mv_has (masks_at hl hx) v).2 this,?_⟩
    rintro ⟨w,hw,he,hn⟩
    have:w=u:=by
     apply Classical.byContradiction
     intro hne
     exact cells_ne hr hw hu hne he
    subst this
    exact hn ⟨ws,h1,h2,h3⟩
   ·rintro ⟨h1,h2⟩
    apply Classical.byContradiction
    intro h3
    exact h2 ⟨u,hu,rfl,h3⟩
  ·rw [s3 x (fun u _ h2 h3=>c ⟨u,by omega,h3⟩)]
   constructor
   ·intro h; exact ⟨h,by rintro ⟨u,hu,he,_⟩; exact c ⟨u,hu,he⟩⟩
   ·intro h; exact h.1
theorem rules_fold {n:Int}:∀ (vs:List V) (l:List Int),(∀ r ∈ vs,ruleOkV n r=true)→masksOk n l=true→masksOk n (vs.foldl (ruleStep n) l)=true∧SubM (vs.foldl (ruleStep n) l) l
 | [],l,_,hl=>⟨hl,SubM.refl l⟩
 | r :: vs,l,hv,hl=>by
  have h1:=ruleStep_sub (hv r (by simp)) hl
  obtain ⟨a,b⟩:=rules_fold vs (ruleStep n l r) (fun q hq=>hv q (List.mem_cons_of_mem _ hq)) (h1.ok hl)
  exact ⟨a,b.trans h1.subM⟩
/-! ### All techniques -/
theorem subAll_good {n:Int} {l:List Int} (hl:masksOk n l=true) (P:Nat→Nat→Prop):masksOk n (subAll l P)=true∧SubM (subAll l P) l:=⟨(subAll_ok (masks_M hl) P).ok hl,(subAll_ok (masks_M hl) P).subM⟩
theorem singlesV_good {n:Int} {l:List Int} (hl:masksOk n l=true):masksOk n (singlesV n l)=true∧SubM (singlesV n l) l:=by
 unfold singlesV; rw [if_pos hl]; exact subAll_good hl _
theorem hiddenV_good {n:Int} {l:List Int} (hl:masksOk n l=true):masksOk n (hiddenV n l)=true∧SubM (hiddenV n l) l:=by
 unfold hiddenV; rw [if_pos hl]; exact subAll_good hl _
theorem pairsV_good {n:Int} {l:List Int} (hl:masksOk n l=true):masksOk n (pairsV n l)=true∧SubM (pairsV n l) l:=by
 unfold pairsV; rw [if_pos hl]; exact subAll_good hl _
theorem puzzleV_rules {n:Int} {given:List Int} {vs:List V} (hp:puzzleV n given vs=true):∀ r ∈ vs,ruleOkV n r=true:=List.all_eq_true.1 (puzzleV_grid hp).2
theorem rulesV_good {n:Int} {given:List Int} {vs:List V} (hp:puzzleV n given vs=true) {l:List Int} (hl:masksOk n l=true):masksOk n (rulesV n given vs l)=true∧SubM (rulesV n given vs l) l:=by
 unfold rulesV; rw [if_pos ⟨hp,hl⟩]; exact rules_fold vs l (puzzleV_rules hp) hl
theorem narrowV_cases {n:Int} {given:List Int} {vs:List V} (hp:puzzleV n given vs=true) {l:List Int} (hl:masksOk n l=true):narrowV n given vs l 1=singlesV n l∧narrowV n given vs l 2=hiddenV n l∧narrowV n given vs l 3=pairsV n l∧narrowV n given vs l 4=rulesV n given vs l:=by
 refine ⟨?_,?_,?_,?_⟩ <;> (unfold narrowV; rw [if_pos ⟨hp,hl⟩]; simp)
theorem narrow_good {n:Int} {given:List Int} {vs:List V} (hp:puzzleV n given vs=true) {most:Nat} (hm:most ≤ 4):Good (narrowV n given vs) n most:=fun l t hl h1 h2=>by
 obtain ⟨c1,c2,c3,c4⟩:=narrowV_cases hp hl
 have:t=1 ∨ t=2 ∨ t=3 ∨ t=4:=by omega
 rcases this with rfl | rfl | rfl | rfl
 ·rw [c1]; exact singlesV_good hl
 ·rw [c2]; exact hiddenV_good hl
 ·rw [c3]; exact pairsV_good hl
 ·rw [c4]; exact rulesV_good hp hl
theorem Rules_l3 (rec:Rec) (k:Nat) (L2:Sl→Int→Int→Sl→Sl→Hp→An) {H0 Hb:Hp} {n kind value:Int} {gs s cs us t:Sl} {cells fl:List Int} {i m:Nat} (hc:Reads .i64 H0 cs cells) (hcl:cells.length ≤ 1000) (hfl:fl.length=cells.length) (hin:∀ c ∈ cells,0 ≤ c∧c < (m:Int)) (hm:m ≤ 1000) (htb:t.blk < Hb.length) :
  ∀ (j q fuel:Nat) (H:Hp) (a:List Int),q + j=cells.length→j < fuel→H0 <+: H→Own 1 Hb H us (fl.map (.int .i64))→Own 1 H0 H t (a.map (.int .i64))→a.length=m →
   ∃ H',spec_NarrowRules.l3 rec k L2 fuel t i us q n gs s kind cs value H=L2 t (IntKind.i64.wrap ((i:Int) + 1)) n gs s H'∧H0 <+: H'∧Own 1 H0 H' t ((setAll cells a fl q j).map (.int .i64))∧Adv t.blk H H':=by
 have hcs:=hc.len
 intro j
 induction j with
 | zero=>
  intro q fuel H a hq hf hp hu ho ha
  obtain ⟨fuel,rfl⟩:=Zs fuel (by omega)
  refine ⟨H,?_,hp,ho,Adv.refl _ _⟩
  simp (disch:=omega) only [spec_NarrowRules.l3,spec_NarrowRules.j5,dt,df,Zt,Zf]
 | succ j ih=>
  intro q fuel H a hq hf hp hu ho ha
  obtain ⟨fuel,rfl⟩:=Zs fuel (by omega)
  have hq2:q < cells.length:=by omega
  obtain ⟨c0,c1⟩:=hin _ (mem_getD hq2)
  have hus:=(own_reads hu).len
  have htl:=(own_reads ho).len
  have hrc:=pf_reads hp hc
  obtain ⟨H1,a1,a2,a3,a4⟩:=own_set1 ho hp (cells.getD q 0).toNat (by omega) (fl.getD q 0)
  obtain ⟨H',b1,b2,b3,b4⟩:=ih (q + 1) fuel H1 _ (by omega) (by omega) a2 (a4.own htb hu) a3 (by simpa using ha)
  push_cast at b1
  refine ⟨H',?_,b2,b3,a4.trans b4⟩
  simp (disch:=omega) only [spec_NarrowRules.l3,dt,Za,Zt,Zn,Zo,rdn hrc,rdn (own_reads hu),a1,wr (n:=(q:Int) + 1),b1]
theorem val_drop (rs:List R) (i:Nat) (h:i < rs.length):(rs.drop i).map R.val=rs[i].val :: (rs.drop (i + 1)).map R.val:=by
 rw [List.drop_eq_getElem_cons h]; rfl
theorem Rules_l2 {k:Nat} (hk:2000040 ≤ k) {H0:Hp} {n:Int} {gs s t:Sl} {given:List Int} {rs:List R} (hz:PuzAt H0 n gs s given rs) (hro:∀ r ∈ rs,R.ok n r=true) :
  ∀ (j i fuel:Nat) (H:Hp) (a:List Int),i + j=rs.length→j < fuel→H0 <+: H→Own 1 H0 H t (a.map (.int .i64))→masksOk n a=true →
   ∃ H',spec_NarrowRules.l2 (callF PP orc k) k fuel t i n gs s H=some (.sl 1 t,H')∧H0 <+: H'∧Own 1 H0 H' t ((((rs.drop i).map R.val).foldl (ruleStep n) a).map (.int .i64)):=by
 have hrl:=hz.rr.len
 have hrl2:=hz.rl
 have hn:=hz.n4
 intro j
 induction j with
 | zero=>
  intro i fuel H a hi hf hp ho ha
  obtain ⟨fuel,rfl⟩:=Zs fuel (by omega)
  rw [List.drop_eq_nil_of_le (by omega)]
  refine ⟨H,?_,hp,ho⟩
  simp (disch:=omega) only [spec_NarrowRules.l2,spec_NarrowRules.j4,dt,df,Zt,Zf]
 | succ j ih=>
  intro i fuel H a hi hf hp ho ha
  obtain ⟨fuel,rfl⟩:=Zs fuel (by omega)
  have hi2:i < rs.length:=by omega
  obtain ⟨l0,l1,l2⟩:=rules_at1 (pf_readsR hp hz.rr) i hi2
  have hrc:=hz.rc _ (List.getElem_mem hi2)
  have hrk:=hro _ (List.getElem_mem hi2)
  have hok:ruleOkV n rs[i].val=true:=hrk
  obtain ⟨c1,c2,c3,c4⟩:=ruleOk_cells hok
  obtain ⟨ml4,ml16,_⟩:=masks_len ha
  have hm2:=(masksOk_iff.1 ha).2.2
  obtain ⟨u,H1,a1,a2,a3⟩:=specRuleMasks_ok (show 2000030 ≤ k by omega) (n:=n) (kind:=rs[i].kind) (value:=rs[i].value) (by omega) (pf_reads hp (hz.rr.cs i hi2)) (own_reads ho) (by omega) (by omega)
  have hfl:(ruleMasksS n rs[i].kind rs[i].value rs[i].cells a).length=rs[i].cells.length:=by
   have e:ruleMasksS n rs[i].kind rs[i].value rs[i].cells a=ruleMasksV rs[i].kind rs[i].value (ownOf a rs[i].cells):=ruleMasks_S hok ha
   have h4:rs[i].cells.length ≤ 4:=c2
   rw [e,(ruleMasks_ok (by rw [own_len]; exact h4)).2,own_len]
  obtain ⟨H2,b1,b2,b3,b4⟩:=Rules_l3 (callF PP orc k) k (spec_NarrowRules.l2 (callF PP orc k) k fuel) (n:=n) (kind:=rs[i].kind) (value:=rs[i].value) (gs:=gs) (s:=s) (i:=i) (m:=a.length) (hz.rr.cs i hi2) hrc hfl (fun c hc=>by have:=c1 c hc; omega) (by omega) (own_lt' ho) rs[i].cells.length 0 k H1 a (by omega) (by omega) (hp.trans a2) a3 (own_pf ho a2) rfl
  have hst:masksOk n (ruleStep n a rs[i].val)=true:=(ruleStep_sub hok ha).ok ha
  obtain ⟨H',d1,d2,d3⟩:=ih (i + 1) fuel H2 (ruleStep n a rs[i].val) (by omega) (by omega) b2 b3 hst
  push_cast at d1
  rw [val_drop rs i hi2,List.foldl_cons]
  refine ⟨H',?_,d2,d3⟩
  simp only [Int.natCast_zero] at b1
  simp (disch:=omega) only [spec_NarrowRules.l2,dt,Za,Zt,Zn,Zo,l0,l1,l2,a1,AV.toS,if_true,b1,wr (n:=(i:Int) + 1),d1]
theorem specNarrowRules_ok {k:Nat} (hk:2000050 ≤ k) {H:Hp} {n:Int} {gs s ms:Sl} {given l:List Int} {rs:List R} (hz:PuzAt H n gs s given rs) (hm:Reads .i64 H ms l) (hl:l.length ≤ 1000) :
  ∃ t H',callF PP orc k spec_NarrowRules.id [.agg [.int .i64 n,.sl 1 gs,.sl 3 s],.sl 1 ms] H=some (.sl 1 t,H')∧H <+: H'∧Own 1 H H' t ((rulesV n given (rs.map R.val) l).map (.int .i64)):=by
 obtain ⟨k,rfl⟩:=Zs k (by omega)
 rw [spec_NarrowRules.call]
 have hn:=hz.n4
 have h1:=specPuzzleValid_ok (show 2000003 ≤ k by omega) hz.n4 hz.rg hz.gl hz.rr hz.rl hz.rc
 rw [puzzle_map] at h1
 have h2:=specMasksValid_any (show 2000000 ≤ k by omega) (n:=n) (by omega) hm hl
 unfold rulesV
 cases e1:puzzleV n given (rs.map R.val) with
 | false=>
  rw [e1] at h1
  rw [iN (by simp)]
  exact ⟨Sl.mk false H.length 0 0,H ++ [some (Blk.mk false [])],by simp only [spec_NarrowRules.f,spec_NarrowRules.j0,dt,df,bt,bf,nt,nf,Za,Zy,Zx,Zt,Zf,Zn,Zz,Zi,Zo,wr,AV.toB,AV.toI,AV.toS,if_true,h1],(List.prefix_append _ _),own_new 1 H [] 0 rfl⟩
 | true=>
  rw [e1] at h1
  cases e2:masksOk n l with
  | false=>
   rw [e2] at h2
   rw [iN (by simp)]
   exact ⟨Sl.mk false H.length 0 0,H ++ [some (Blk.mk false [])],by simp only [spec_NarrowRules.f,spec_NarrowRules.j0,dt,df,bt,bf,nt,nf,Za,Zy,Zx,Zt,Zf,Zn,Zz,Zi,Zo,wr,AV.toB,AV.toI,AV.toS,if_true,h1,h2],(List.prefix_append _ _),own_new 1 H [] 0 rfl⟩
  | true=>
   rw [e2] at h2
   rw [ip ⟨rfl,rfl⟩]
   have h3:=l6Copy_ok (show 1 ≤ k by omega) hm hl
   have hnew:=own_new 1 H (l.map (.int .i64)) l.length (by simp)
   obtain ⟨_,_,q3⟩:=puzzleV_iff e1
   have hrl:=hz.rl
   obtain ⟨H',b1,b2,b3⟩:=Rules_l2 (show 2000040 ≤ k by omega) hz q3 rs.length 0 k (H ++ [some (Blk.mk false (l.map (.int .i64)))]) l (by omega) (by omega) (List.prefix_append _ _) hnew e2
   rw [List.drop_zero] at b3
   refine ⟨_,H',?_,b2,b3⟩
   simp only [Int.natCast_zero] at b1
   simp only [spec_NarrowRules.f,spec_NarrowRules.j0,spec_NarrowRules.j1,dt,df,bt,bf,nt,nf,Za,Zy,Zx,Zt,Zf,Zn,Zz,Zi,Zo,wr,AV.toB,AV.toI,AV.toS,if_true,h1,h2,h3,b1]
theorem l8Same_l0 (rec:Rec) (k:Nat) {H:Hp} {s t:Sl} {x y:List Int} (hs:Reads .i64 H s x) (ht:Reads .i64 H t y) (hl:x.length=y.length) (h1:x.length ≤ 1000) :
  ∀ (j i fuel:Nat),i + j=x.length→j < fuel→spec_l8Same.l0 rec k fuel s t i H=some (.bool (decide (x.drop i=y.drop i)),H):=by
 have hsl:=hs.len
 have htl:=ht.len
 intro j
 induction j with
 | zero=>
  intro i fuel hi hf
  obtain ⟨fuel,rfl⟩:=Zs fuel (by omega)
  rw [List.drop_eq_nil_of_le (show x.length ≤ i by omega),List.drop_eq_nil_of_le (show y.length ≤ i by omega)]
  simp (disch:=omega) only [spec_l8Same.l0,dt,df,bt,bf,nt,nf,Za,Zy,Zx,Zt,Zf,Zn,Zz,Zi,Zo,wr,AV.toB,AV.toI,AV.toS,if_true]
  rfl
 | succ j ih=>
  intro i fuel hi hf
  obtain ⟨fuel,rfl⟩:=Zs fuel (by omega)
  have hx:i < x.length:=by omega
  have hy:i < y.length:=by omega
  have ex:x.drop i=x.getD i 0 :: x.drop (i + 1):=by
   rw [List.drop_eq_getElem_cons hx,List.getD_eq_getElem?_getD,List.getElem?_eq_getElem hx]; rfl
  have ey:y.drop i=y.getD i 0 :: y.drop (i + 1):=by
   rw [List.drop_eq_getElem_cons hy,List.getD_eq_getElem?_getD,List.getElem?_eq_getElem hy]; rfl
  rw [ex,ey]
  by_cases c:x.getD i 0=y.getD i 0
  ·have d1:=ih (i + 1) fuel (by omega) (by omega)
   push_cast at d1
   rw [show decide (x.getD i 0 :: x.drop (i + 1)=y.getD i 0 :: y.drop (i + 1))=decide (x.drop (i + 1)=y.drop (i + 1)) by rw [c]; simp,← d1]
   simp (disch:=omega) only [spec_l8Same.l0,dt,df,bt,bf,nt,nf,Za,Zy,Zx,Zt,Zf,Zn,Zz,Zi,Zo,wr,AV.toB,AV.toI,AV.toS,if_true,rdn hs,rdn ht,nf]
  ·rw [show decide (x.getD i 0 :: x.drop (i + 1)=y.getD i 0 :: y.drop (i + 1))=false from decide_eq_false fun h=>c (List.cons.inj h).1]
   simp (disch:=omega) only [spec_l8Same.l0,dt,df,bt,bf,nt,nf,Za,Zy,Zx,Zt,Zf,Zn,Zz,Zi,Zo,wr,AV.toB,AV.toI,AV.toS,if_true,rdn hs,rdn ht,nt]
theorem l8Same_ok {k:Nat} (hk:2000000 ≤ k) {H:Hp} {s t:Sl} {x y:List Int} (hs:Reads .i64 H s x) (ht:Reads .i64 H t y) (h1:x.length ≤ 1000) (h2:y.length ≤ 1000) :
  callF PP orc k spec_l8Same.id [.sl 1 s,.sl 1 t] H=some (.bool (decide (x=y)),H):=by
 obtain ⟨k,rfl⟩:=Zs k (by omega)
 rw [spec_l8Same.call]
 have hsl:=hs.len
 have htl:=ht.len
 by_cases c:x.length=y.length
 ·have d1:=l8Same_l0 (callF PP orc k) k hs ht c h1 x.length 0 k (by omega) (by omega)
  simp only [Int.natCast_zero,List.drop_zero] at d1
  rw [← d1]
  simp (disch:=omega) only [spec_l8Same.f,dt,df,bt,bf,nt,nf,Za,Zy,Zx,Zt,Zf,Zn,Zz,Zi,Zo,wr,AV.toB,AV.toI,AV.toS,if_true]
 ·rw [decide_eq_false (fun h=>c (congrArg List.length h))]
  simp (disch:=omega) only [spec_l8Same.f,dt,df,bt,bf,nt,nf,Za,Zy,Zx,Zt,Zf,Zn,Zz,Zi,Zo,wr,AV.toB,AV.toI,AV.toS,if_true]
theorem specNarrowBy_ok {k:Nat} (hk:2000060 ≤ k) {H:Hp} {n:Int} {gs s ms:Sl} {given l:List Int} {rs:List R} (hz:PuzAt H n gs s given rs) (hm:Reads .i64 H ms l) (hl:l.length ≤ 1000) (t:Int) :
  ∃ u H',callF PP orc k spec_NarrowBy.id [.agg [.int .i64 n,.sl 1 gs,.sl 3 s],.sl 1 ms,.int .i64 t] H=some (.sl 1 u,H')∧H <+: H'∧Own 1 H H' u ((narrowV n given (rs.map R.val) l t).map (.int .i64)):=by
 obtain ⟨k,rfl⟩:=Zs k (by omega)
 rw [spec_NarrowBy.call]
 have hn:=hz.n4
 have h1:=specPuzzleValid_ok (show 2000003 ≤ k by omega) hz.n4 hz.rg hz.gl hz.rr hz.rl hz.rc
 rw [puzzle_map] at h1
 have h2:=specMasksValid_any (show 2000000 ≤ k by omega) (n:=n) (by omega) hm hl
 unfold narrowV
 cases e1:puzzleV n given (rs.map R.val) with
 | false=>
  rw [e1] at h1
  rw [iN (by simp)]
  exact ⟨Sl.mk false H.length 0 0,H ++ [some (Blk.mk false [])],by simp only [spec_NarrowBy.f,spec_NarrowBy.j0,dt,df,bt,bf,nt,nf,Za,Zy,Zx,Zt,Zf,Zn,Zz,Zi,Zo,wr,AV.toB,AV.toI,AV.toS,if_true,h1],(List.prefix_append _ _),own_new 1 H [] 0 rfl⟩
 | true=>
  rw [e1] at h1
  cases e2:masksOk n l with
  | false=>
   rw [e2] at h2
   rw [iN (by simp)]
   exact ⟨Sl.mk false H.length 0 0,H ++ [some (Blk.mk false [])],by simp only [spec_NarrowBy.f,spec_NarrowBy.j0,dt,df,bt,bf,nt,nf,Za,Zy,Zx,Zt,Zf,Zn,Zz,Zi,Zo,wr,AV.toB,AV.toI,AV.toS,if_true,h1,h2],(List.prefix_append _ _),own_new 1 H [] 0 rfl⟩
  | true=>
   rw [e2] at h2
   rw [ip ⟨rfl,rfl⟩]
   by_cases t1:t=1
   ·obtain ⟨u,H',a1,a2,a3⟩:=specNarrowSingles_ok (show 2000010 ≤ k by omega) (n:=n) (by omega) hm hl
    rw [ip t1]
    exact ⟨u,H',by simp only [spec_NarrowBy.f,spec_NarrowBy.j0,spec_NarrowBy.j1,dt,df,bt,bf,nt,nf,Za,Zy,Zx,Zt,Zf,Zn,Zz,Zi,Zo,wr,AV.toB,AV.toI,AV.toS,if_true,h1,h2,bt t1,a1],a2,a3⟩
   rw [iN t1]
   by_cases t2:t=2
   ·obtain ⟨u,H',a1,a2,a3⟩:=specNarrowHidden_ok (show 2000010 ≤ k by omega) (n:=n) (by omega) hm hl
    rw [ip t2]
    exact ⟨u,H',by simp only [spec_NarrowBy.f,spec_NarrowBy.j0,spec_NarrowBy.j1,dt,df,bt,bf,nt,nf,Za,Zy,Zx,Zt,Zf,Zn,Zz,Zi,Zo,wr,AV.toB,AV.toI,AV.toS,if_true,h1,h2,bf t1,bt t2,a1],a2,a3⟩
   rw [iN t2]
   by_cases t3:t=3
   ·obtain ⟨u,H',a1,a2,a3⟩:=specNarrowPairs_ok (show 2000010 ≤ k by omega) (n:=n) (by omega) hm hl
    rw [ip t3]
    exact ⟨u,H',by simp only [spec_NarrowBy.f,spec_NarrowBy.j0,spec_NarrowBy.j1,dt,df,bt,bf,nt,nf,Za,Zy,Zx,Zt,Zf,Zn,Zz,Zi,Zo,wr,AV.toB,AV.toI,AV.toS,if_true,h1,h2,bf t1,bf t2,bt t3,a1],a2,a3⟩
   rw [iN t3]
   by_cases t4:t=4
   ·obtain ⟨u,H',a1,a2,a3⟩:=specNarrowRules_ok (show 2000050 ≤ k by omega) hz hm hl
    rw [ip t4]
    exact ⟨u,H',by simp only [spec_NarrowBy.f,spec_NarrowBy.j0,spec_NarrowBy.j1,dt,df,bt,bf,nt,nf,Za,Zy,Zx,Zt,Zf,Zn,Zz,Zi,Zo,wr,AV.toB,AV.toI,AV.toS,if_true,h1,h2,bf t1,bf t2,bf t3,bt t4,a1],a2,a3⟩
   rw [iN t4]
   exact ⟨Sl.mk false H.length 0 0,H ++ [some (Blk.mk false [])],by simp only [spec_NarrowBy.f,spec_NarrowBy.j0,spec_NarrowBy.j1,dt,df,bt,bf,nt,nf,Za,Zy,Zx,Zt,Zf,Zn,Zz,Zi,Zo,wr,AV.toB,AV.toI,AV.toS,if_true,h1,h2,bf t1,bf t2,bf t3,bf t4],(List.prefix_append _ _),own_new 1 H [] 0 rfl⟩
theorem next_at {N:List Int→Int→List Int} {l:List Int}:∀ (j:Nat) (s t:Int),s ≤ t→t < s + j→(∀ w,s ≤ w→w < t→N l w=l)→N l t ≠ l→nextFrom N l j s=some (t,N l t)
 | 0,s,t,h1,h2,_,_=>by omega
 | j + 1,s,t,h1,h2,h3,h4=>by
  rw [nextFrom]
  by_cases e:s=t
  ·subst e; rw [if_neg h4]
  ·rw [if_pos (h3 s (Int.le_refl _) (by omega))]
   exact next_at j (s + 1) t (by omega) (by omega) (fun w h5 h6=>h3 w (by omega) h6) h4
noncomputable def allV (n:Int) (given:List Int) (vs:List V) (l:List Int) (most:Int):List Int × Int:=
 if puzzleV n given vs=true∧masksOk n l=true∧1 ≤ most∧most ≤ 4 then (lastV (runS (narrowV n given vs) most.toNat l) l,((runS (narrowV n given vs) most.toNat l).length:Int)) else ([],-1)
theorem NarrowAll_l2 {k:Nat} (hk:2000060 ≤ k) {H0:Hp} {n:Int} {gs s:Sl} {given:List Int} {rs:List R} (hz:PuzAt H0 n gs s given rs) (hp:puzzleV n given (rs.map R.val)=true) {most:Nat} (hm:most ≤ 4) :
  ∀ (m fuel:Nat) (H:Hp) (u:Sl) (a:List Int) (t r:Nat),5 * total a + (most + 1 - t) ≤ m→m < fuel→H0 <+: H→Own 1 H0 H u (a.map (.int .i64))→masksOk n a=true→1 ≤ t→t ≤ most + 1→(∀ w:Int,1 ≤ w→w < (t:Int)→narrowV n given (rs.map R.val) a w=a)→r + total a ≤ 1000 →
   ∃ u' H',spec_NarrowAll.l2 (callF PP orc k) k fuel (most:Int) u (r:Int) (t:Int) n gs s H=some (.tup [.sl 1 u',.int .i64 ((r + (runS (narrowV n given (rs.map R.val)) most a).length:Nat):Int)],H')∧H0 <+: H'∧Own 1 H0 H' u' ((lastV (runS (narrowV n given (rs.map R.val)) most a) a).map (.int .i64)):=by
 have hgood:=narrow_good hp hm
 intro m
 induction m with
 | zero=>
  intro fuel H u a t r h1 hf hpf ho ha ht1 ht2 hw hr
  obtain ⟨fuel,rfl⟩:=Zs fuel (by omega)
  have hno:nextFrom (narrowV n given (rs.map R.val)) a most 1=none:=(next_none most 1).2 fun w w1 w2=>hw w w1 (by omega)
  rw [runS_none hno]
  refine ⟨u,H,?_,hpf,ho⟩
  simp (disch:=omega) only [spec_NarrowAll.l2,spec_NarrowAll.j3,df,Zf,Zm,Nat.add_zero]
 | succ m ih=>
  intro fuel H u a t r h1 hf hpf ho ha ht1 ht2 hw hr
  obtain ⟨fuel,rfl⟩:=Zs fuel (by omega)
  by_cases ct:t ≤ most
  ·have hal:=masks_len ha
   obtain ⟨v,H1,a1,a2,a3⟩:=specNarrowBy_ok hk (hz.pf hpf) (own_reads ho) (by omega) (t:Int)
   have hg:=hgood a t ha (by omega) (by omega)
   have hgl:=masks_len hg.1
   have h2:=l8Same_ok (show 2000000 ≤ k by omega) (own_reads a3) (pf_reads a2 (own_reads ho)) (by omega) (by omega)
   by_cases c:narrowV n given (rs.map R.val) a t=a
   ·rw [decide_eq_true c] at h2
    obtain ⟨u',H',b1,b2,b3⟩:=ih fuel H1 u a (t + 1) r (by omega) (by omega) (hpf.trans a2) (own_pf ho a2) ha (by omega) (by omega) (fun w w1 w2=>by
     by_cases e:w=t
     ·rw [e]; exact c
     ·exact hw w w1 (by omega)) hr
    push_cast at b1
    refine ⟨u',H',?_,b2,b3⟩
    simp (disch:=omega) only [spec_NarrowAll.l2,dt,Zt,a1,h2,Zo,AV.toS,AV.toB,if_true,wr (n:=(t:Int) + 1),b1]
    push_cast; rfl
   ·rw [decide_eq_false c] at h2
    have hno:=next_at most 1 t (by omega) (by omega) (fun w w1 w2=>hw w w1 (by omega)) c
    obtain ⟨q1,q2,q3⟩:=next_good hgood ha hno
    rw [runS_some hgood ha hno]
    obtain ⟨u',H',b1,b2,b3⟩:=ih fuel H1 v (narrowV n given (rs.map R.val) a t) 1 (r + 1) (by omega) (by omega) (hpf.trans a2) (own_base a3 hpf) q1 (by omega) (by omega) (fun w w1 w2=>by omega) (by omega)
    push_cast at b1
    refine ⟨u',H',?_,b2,b3⟩
    simp (disch:=omega) only [spec_NarrowAll.l2,dt,Zt,Zf,a1,h2,Zo,AV.toS,AV.toB,if_true,wr (n:=(r:Int) + 1),b1]
    simp only [Zl]
    congr 6
    push_cast; omega
  ·have hno:nextFrom (narrowV n given (rs.map R.val)) a most 1=none:=(next_none most 1).2 fun w w1 w2=>hw w w1 (by omega)
   rw [runS_none hno]
   refine ⟨u,H,?_,hpf,ho⟩
   simp (disch:=omega) only [spec_NarrowAll.l2,spec_NarrowAll.j3,df,Zf,Zm,Nat.add_zero]
theorem specNarrowAll_ok {k:Nat} (hk:2000070 ≤ k) {H:Hp} {n:Int} {gs s ms:Sl} {given l:List Int} {rs:List R} (hz:PuzAt H n gs s given rs) (hm:Reads .i64 H ms l) (hl:l.length ≤ 1000) (most:Int) :
  ∃ u H',callF PP orc k spec_NarrowAll.id [.agg [.int .i64 n,.sl 1 gs,.sl 3 s],.sl 1 ms,.int .i64 most] H=some (.tup [.sl 1 u,.int .i64 (allV n given (rs.map R.val) l most).2],H')∧H <+: H'∧Own 1 H H' u ((allV n given (rs.map R.val) l most).1.map (.int .i64)):=by
 obtain ⟨k,rfl⟩:=Zs k (by omega)
 rw [spec_NarrowAll.call]
 have hn:=hz.n4
 have h1:=specPuzzleValid_ok (show 2000003 ≤ k by omega) hz.n4 hz.rg hz.gl hz.rr hz.rl hz.rc
 rw [puzzle_map] at h1
 have h2:=specMasksValid_any (show 2000000 ≤ k by omega) (n:=n) (by omega) hm hl
 have h3:=l1In_ok (show 1 ≤ k by omega) most 1 4 H
 unfold allV
 cases e1:puzzleV n given (rs.map R.val) with
 | false=>
  rw [e1] at h1
  rw [iN (by simp)]
  exact ⟨Sl.mk false H.length 0 0,H ++ [some (Blk.mk false [])],by simp only [spec_NarrowAll.f,spec_NarrowAll.j0,dt,df,bt,bf,nt,nf,Za,Zy,Zx,Zt,Zf,Zn,Zz,Zi,Zo,wr,AV.toB,AV.toI,AV.toS,if_true,h1],(List.prefix_append _ _),own_new 1 H [] 0 rfl⟩
 | true=>
  rw [e1] at h1
  cases e2:masksOk n l with
  | false=>
   rw [e2] at h2
   rw [iN (by simp)]
   exact ⟨Sl.mk false H.length 0 0,H ++ [some (Blk.mk false [])],by simp only [spec_NarrowAll.f,spec_NarrowAll.j0,dt,df,bt,bf,nt,nf,Za,Zy,Zx,Zt,Zf,Zn,Zz,Zi,Zo,wr,AV.toB,AV.toI,AV.toS,if_true,h1,h2],(List.prefix_append _ _),own_new 1 H [] 0 rfl⟩
  | true=>
   rw [e2] at h2
   by_cases c:1 ≤ most∧most ≤ 4
   ·rw [decide_eq_true c] at h3
    rw [ip ⟨rfl,rfl,c⟩]
    obtain ⟨M,rfl⟩:=Int.eq_ofNat_of_zero_le (show 0 ≤ most by omega)
    have h4:=l6Copy_ok (show 1 ≤ k by omega) hm hl
    have hnew:=own_new 1 H (l.map (.int .i64)) l.length (by simp)
    have ht:=total_le e2
    obtain ⟨u',H',b1,b2,b3⟩:=NarrowAll_l2 (show 2000060 ≤ k by omega) hz e1 (most:=M) (by omega) (5 * total l + M) k (H ++ [some (Blk.mk false (l.map (.int .i64)))]) _ l 1 0 (by omega) (by omega) (List.prefix_append _ _) hnew e2 (by omega) (by omega) (fun w w1 w2=>by omega) (by omega)
    rw [Int.toNat_natCast]
    refine ⟨u',H',?_,b2,b3⟩
    rw [Nat.zero_add] at b1
    simp only [spec_NarrowAll.f,spec_NarrowAll.j0,spec_NarrowAll.j1,dt,df,bt,bf,nt,nf,Za,Zy,Zx,Zt,Zf,Zn,Zz,Zi,Zo,wr,AV.toB,AV.toI,AV.toS,if_true,h1,h2,h3,h4]
    exact b1
   ·rw [decide_eq_false c] at h3
    rw [iN (fun h=>c ⟨h.2.2.1,h.2.2.2⟩)]
    exact ⟨Sl.mk false H.length 0 0,H ++ [some (Blk.mk false [])],by simp only [spec_NarrowAll.f,spec_NarrowAll.j0,dt,df,bt,bf,nt,nf,Za,Zy,Zx,Zt,Zf,Zn,Zz,Zi,Zo,wr,AV.toB,AV.toI,AV.toS,if_true,h1,h2,h3],(List.prefix_append _ _),own_new 1 H [] 0 rfl⟩
def valS (t:Sl) (c:List Int):List Int:=(c.drop t.off).take t.len
structure MD (b:Nat) (l:List Int) (p:Nat) (B H:Hp) (t:Sl) (c:List Int):Prop where
 hb:b < B.length
 adv:Adv b B H
 rd:RD b H l p
 ow:Own 1 B H (Sl.mk false t.blk 0 c.length) (c.map (.int .i64))
 nn:t.nil=false
 fit:t.off + t.len ≤ c.length
 c16:c.length ≤ 16
 rg:∀ m ∈ c,-2 ≤ m∧m ≤ 63
theorem valS_len {t:Sl} {c:List Int} (h:t.off + t.len ≤ c.length):(valS t c).length=t.len:=by unfold valS; simp; omega
theorem MD.len {b:Nat} {l:List Int} {p:Nat} {B H:Hp} {t:Sl} {c:List Int} (h:MD b l p B H t c):(valS t c).length=t.len:=valS_len h.fit
theorem MD.reads {b:Nat} {l:List Int} {p:Nat} {B H:Hp} {t:Sl} {c:List Int} (h:MD b l p B H t c):Reads .i64 H t (valS t c):=by
 have hl:=h.len
 refine ⟨by omega,fun i hi=>?_⟩
 have h1:=own_cell h.ow (t.off + i)
 have hf:=h.fit
 have e:t.off + i < c.length:=by omega
 have e2:(valS t c)[i]'hi=c[t.off + i]:=by simp [valS]
 rw [e2]
 rw [Nat.zero_add] at h1
 show H.cell t.blk (t.off + i)=_
 rw [h1]; simp [e]
theorem MD.rgv {b:Nat} {l:List Int} {p:Nat} {B H:Hp} {t:Sl} {c:List Int} (h:MD b l p B H t c):∀ m ∈ valS t c,-2 ≤ m∧m ≤ 63:=fun m hm=>h.rg m (List.mem_of_mem_drop (List.mem_of_mem_take hm))
theorem MD.l16 {b:Nat} {l:List Int} {p:Nat} {B H:Hp} {t:Sl} {c:List Int} (h:MD b l p B H t c):(valS t c).length ≤ 16:=by
 have:=h.len; have:=h.fit; have:=h.c16; omega
theorem MD.blk {b:Nat} {l:List Int} {p:Nat} {B H:Hp} {t:Sl} {c:List Int} (h:MD b l p B H t c):B.length ≤ t.blk:=h.ow.blk
theorem MD.step {b:Nat} {l:List Int} {p p':Nat} {B H H':Hp} {t:Sl} {c:List Int} (h:MD b l p B H t c) (a:Adv b H H') (r:RD b H' l p'):MD b l p' B H' t c:=⟨h.hb,h.adv.trans a,r,a.own h.hb h.ow,h.nn,h.fit,h.c16,h.rg⟩
theorem MD.set {b:Nat} {l:List Int} {p:Nat} {B H:Hp} {t:Sl} {c:List Int} (h:MD b l p B H t c) {i:Nat} (hi:i < t.len) {v:Int} (hv:-2 ≤ v∧v ≤ 63) :
  ∃ H',H.sto t.blk (t.off + i * 1) [.int .i64 v]=some H'∧MD b l p B H' t (c.set (t.off + i) v):=by
 have hf:=h.fit
 obtain ⟨H',a1,a2,a3,a4⟩:=own_setB h.ow h.hb h.adv h.rd (t.off + i) (by omega) v
 refine ⟨H',?_,h.hb,a3,a4,?_,h.nn,by simpa using h.fit,by simpa using h.c16,fun m hm=>?_⟩
 ·rw [Nat.mul_one] at a1 ⊢; rw [Nat.zero_add] at a1; exact a1
 ·rw [List.length_set]; exact a2
 ·rcases List.mem_or_eq_of_mem_set hm with h1 | h1
  ·exact h.rg m h1
  ·rw [h1]; exact hv
theorem MD.cut {b:Nat} {l:List Int} {p:Nat} {B H:Hp} {t:Sl} {c:List Int} (h:MD b l p B H t c) (hl:0 < t.len):MD b l p B H (Sl.mk t.nil t.blk (t.off + (1:Int).toNat * 1) (((t.len:Int):Int) - 1).toNat) c:=
 ⟨h.hb,h.adv,h.rd,h.ow,h.nn,by have:=h.fit; simp only [Zi]; omega,h.c16,h.rg⟩
theorem MD.new {b:Nat} {l:List Int} {p:Nat} {B Hq H:Hp} {t:Sl} {c:List Int} (hb:b < B.length) (hB:B.length ≤ Hq.length) (ha:Adv b B H) (hr:RD b H l p) (ho:Own 1 Hq H t (c.map (.int .i64))) (h16:c.length ≤ 16) (hg:∀ m ∈ c,-2 ≤ m∧m ≤ 63):MD b l p B H t c:=by
 have hl:=ho.len
 simp at hl
 have e:Sl.mk false t.blk 0 c.length=t:=by
  have h1:=ho.nn; have h2:=ho.off
  cases t; simp_all
 exact ⟨hb,ha,hr,by rw [e]; exact ⟨ho.nn,ho.off,Nat.le_trans hB ho.blk,ho.get,ho.len⟩,ho.nn,by have:=ho.off; omega,h16,hg⟩
def MasksDraw (b:Nat) (l:List Int) (p0:Nat) (B:Hp) (r:An):Prop:=
 ∃ n t c p' H',r=some (.tup [.sl 1 t,.int .i64 n],H')∧MD b l p' B H' t c∧p' ≤ p0∧-1 ≤ n∧n ≤ 5
theorem Masks_j2 {k:Nat} (hk:1000 ≤ k) {b:Nat} {l:List Int} {x1 n:Int} (hx1:x1 < 1000000) (hn:2 ≤ n∧n ≤ 4) {p p0:Nat} (hp:p + 10 ≤ p0) (hp0:p0 ≤ 999990000) {B H:Hp} {t:Sl} {c:List Int} (h:MD b l p B H t c) (h0:0 < t.len) :
  MasksDraw b l p0 B (spec_l20Masks.j2 (callF PP orc k) k b 0 x1 n t H):=by
 obtain ⟨v,p1,H1,a1,a2,a3,a4,a5⟩:=odd_adv (show 2 ≤ k by omega) h.rd (by omega) hx1
 have h1:=h.step a4 a2
 have ht16:t.len ≤ 16:=by have:=h.fit; have:=h.c16; omega
 cases v with
 | false=>
  refine ⟨n,t,c,p1,H1,?_,h1,by omega,by omega,by omega⟩
  simp (disch:=omega) only [spec_l20Masks.j2,spec_l20Masks.j3,dt,df,bt,bf,nt,nf,Za,Zy,Zx,Zt,Zf,Zn,Zz,Zi,Zo,wr,AV.toB,AV.toI,AV.toS,if_true,a1]
 | true=>
  obtain ⟨w,H2,b1,b2,b3,b4,b5⟩:=pick_adv (show 1 ≤ k by omega) a2 (by omega) 3
  have h2:=h1.step b3 b2
  have w3:=b5 (by omega)
  by_cases w0:w=0
  ·obtain ⟨i,H3,c1,c2,c3,c4,c5⟩:=pick_adv (show 1 ≤ k by omega) b2 (by omega) (t.len:Int)
   have h3:=h2.step c3 c2
   have i1:=c5 (by omega)
   obtain ⟨z,H4,d1,d2,d3,d4,d5⟩:=pick_adv (show 1 ≤ k by omega) c2 (by omega) 3
   have h4:=h3.step d3 d2
   have z1:=d5 (by omega)
   obtain ⟨y,e1,e2,e3⟩:∃ y,(([.int .i64 (-2),.int .i64 1,.int .i64 (pw (n + 1))]:List AV)[z.toNat * 1]?)=some (.int .i64 y)∧-2 ≤ y∧y ≤ 63:=by
    obtain ⟨_,_,t3⟩:=topMask_pw hn
    obtain ⟨_,t2,_⟩:=topMask_pw hn
    have:z=0 ∨ z=1 ∨ z=2:=by omega
    rcases this with rfl | rfl | rfl
    ·exact ⟨-2,rfl,by omega,by omega⟩
    ·exact ⟨1,rfl,by omega,by omega⟩
    ·exact ⟨pw (n + 1),rfl,by omega,by omega⟩
   obtain ⟨H5,f1,f2⟩:=h4.set (i:=i.toNat) (by omega) ⟨e2,e3⟩
   have z3:z < ((3:Nat):Int):=by omega
   refine ⟨n,t,_,_,H5,?_,f2,by omega,by omega,by omega⟩
   simp (disch:=omega) only [spec_l20Masks.j2,spec_l20Masks.j3,dt,df,bt,bf,nt,nf,Za,Zy,Zx,Zt,Zf,Zn,Zz,Zi,Zo,wr,AV.toB,AV.toI,AV.toS,if_true,a1,b1,c1,d1,wr (n:=n + 1),iN,m_shl (v:=n + 1),e1,AV.cell,f1]
  ·by_cases w1:w=1
   ·refine ⟨n,_,c,_,H2,?_,h2.cut h0,by omega,by omega,by omega⟩
    simp (disch:=omega) only [spec_l20Masks.j2,spec_l20Masks.j3,dt,df,bt,bf,nt,nf,Za,Zy,Zx,Zt,Zf,Zn,Zz,Zi,Zo,wr,AV.toB,AV.toI,AV.toS,if_true,a1,b1,w1]
    rw [if_pos ⟨⟨by omega,by omega,by omega,trivial⟩,by omega,trivial⟩]
   ·obtain ⟨m,p3,H3,c1,c2,c3,c4,c5,c6,c7⟩:=l20Size_ok (show 3 ≤ k by omega) b2 (by omega) (n:=1) (by omega)
    refine ⟨m,t,c,p3,H3,?_,h2.step c4 c2,by omega,c5,c6⟩
    simp (disch:=omega) only [spec_l20Masks.j2,spec_l20Masks.j3,dt,df,bt,bf,nt,nf,Za,Zy,Zx,Zt,Zf,Zn,Zz,Zi,Zo,wr,AV.toB,AV.toI,AV.toS,if_true,a1,b1,c1]
theorem masks_rg {n:Int} {l:List Int} (h:masksOk n l=true):l.length ≤ 16∧0 < l.length∧∀ m ∈ l,-2 ≤ m∧m ≤ 63:=by
 obtain ⟨h1,h2,h3⟩:=masksOk_iff.1 h
 have:=masks_len h
 refine ⟨by omega,by omega,fun m hm=>?_⟩
 have:=(maskOk_iff.1 (h2 m hm)).1
 have:=topMask_le n
 omega
theorem Masks_j1 {k:Nat} (hk:2000600 ≤ k) {b:Nat} {l:List Int} {x1 n:Int} (hx1:x1 < 1000000) (hn:2 ≤ n∧n ≤ 4) {p p0:Nat} (hp:p + 520 ≤ p0) (hp0:p0 ≤ 899990000) {B H:Hp} {t:Sl} {c:List Int} (h:MD b l p B H t c) (h0:0 < t.len) :
  MasksDraw b l p0 B (spec_l20Masks.j1 (callF PP orc k) k b 0 x1 n t H):=by
 obtain ⟨v,H1,a1,a2,a3,a4,a5⟩:=pick_adv (show 1 ≤ k by omega) h.rd (by omega) 2
 have h1:=h.step a3 a2
 by_cases c0:v=0
 ·obtain ⟨m,gs,s,given,rs,p2,H2,b1,b2,b3,b4,b5,b6⟩:=l20Puzzle_ok (show 2000500 ≤ k by omega) (x1:=0) (by omega) a2 (by omega)
  have hv:=b6 (by omega)
  have h2:=h1.step b4 b2
  have hz:=b5.at'
  obtain ⟨u,H3,c1,c2,c3⟩:=specStartMasks_ok (show 2000010 ≤ k by omega) hz
  obtain ⟨w,H4,d1,d2,d3,d4,d5⟩:=pick_adv (show 1 ≤ k by omega) (b2.pf c2) (by omega) 2
  have hw:=d5 (by omega)
  have hs:masksOk m (startV m given (rs.map R.val))=true:=by
   unfold startV; rw [ip hv]; exact openOf_ok (puzzleV_iff hv).1
  have hb2:b < H2.length:=by have:=h.hb; have:=h.adv.le; have:=a3.le; have:=b4.le; omega
  have hz4:=(b5.adv (show b < H1.length by have:=h.hb; have:=h.adv.le; have:=a3.le; omega) ((pf_adv c2).trans d3)).at'
  have r3:=(d3.own hb2 c3)
  obtain ⟨x,H5,e1,e2,e3⟩:=specNarrowAll_ok (show 2000070 ≤ k by omega) hz4 (own_reads r3) (by have:=masks_rg hs; omega) (1 + w)
  have hall:masksOk m (allV m given (rs.map R.val) (startV m given (rs.map R.val)) (1 + w)).1=true:=by
   unfold allV
   rw [ip ⟨hv,hs,by omega,by omega⟩]
   exact (run_end (narrow_good hv (by omega)) hs).1
  obtain ⟨q1,q2,q3⟩:=masks_rg hall
  have hxl:=(own_reads e3).len
  have h5:MD b l (p2 + 1) B H5 x _:=MD.new h.hb (by have:=h.adv.le; have:=a3.le; have:=b4.le; have:=c2.length_le; have:=d3.le; omega) ((((h.adv.trans a3).trans b4).trans ((pf_adv c2).trans d3)).trans (pf_adv e2)) (d2.pf e2) e3 q1 q3
  have:=Masks_j2 (show 1000 ≤ k by omega) hx1 hz.n4 (p0:=p0) (by omega) (by omega) h5 (by omega)
  simp (disch:=omega) only [spec_l20Masks.j1,dt,df,bt,bf,nt,nf,Za,Zy,Zx,Zt,Zf,Zn,Zz,Zi,Zo,wr,AV.toB,AV.toI,AV.toS,if_true,a1,c0,b1,AV.isAgg,AV.isTup,AV.nth,AV.cel,Zl,Zm,Zc,Zd,beq_self_eq_true,c1,d1,wr (n:=1 + w),e1]
  exact this
 ·have:=Masks_j2 (show 1000 ≤ k by omega) hx1 hn (p0:=p0) (by omega) (by omega) h1 h0
  simp (disch:=omega) only [spec_l20Masks.j1,dt,df,bt,bf,nt,nf,Za,Zy,Zx,Zt,Zf,Zn,Zz,Zi,Zo,wr,AV.toB,AV.toI,AV.toS,if_true,a1]
  exact this
theorem Masks_l0 {k:Nat} (hk:2000600 ≤ k) {b:Nat} {l:List Int} {x1 n:Int} (hx1:x1 < 1000000) (hn:2 ≤ n∧n ≤ 4) {p0:Nat} (hp0:p0 ≤ 899990000) {B:Hp} (hb:b < B.length) :
  ∀ (j i fuel:Nat) (H:Hp) (t:Sl) (a:List Int) (p:Nat),((i + j:Nat):Int)=n * n→j < fuel→p + 520 + 3 * j ≤ p0→Adv b B H→RD b H l p→Own 1 B H t (a.map (.int .i64))→a.length=i→(∀ m ∈ a,-2 ≤ m∧m ≤ 63) →
   MasksDraw b l p0 B (spec_l20Masks.l0 (callF PP orc k) k fuel b 0 x1 n t (i:Int) H):=by
 have hnn:4 ≤ n * n∧n * n ≤ 16:=by
  have:n=2 ∨ n=3 ∨ n=4:=by omega
  rcases this with rfl | rfl | rfl <;> decide
 have hpw:4 ≤ pw n∧pw n ≤ 16:=by
  have:n=2 ∨ n=3 ∨ n=4:=by omega
  rcases this with rfl | rfl | rfl <;> decide
 intro j
 induction j with
 | zero=>
  intro i fuel H t a p hi hf hp hadv hrd ho ha hr
  obtain ⟨fuel,rfl⟩:=Zs fuel (by omega)
  have htl:=(own_reads ho).len
  have:=Masks_j1 hk hx1 hn (p0:=p0) (by omega) hp0 (MD.new hb (Nat.le_refl _) hadv hrd ho (by omega) hr) (by omega)
  simp (disch:=omega) only [spec_l20Masks.l0,df,Zf,wr (n:=n * n)]
  exact this
 | succ j ih=>
  intro i fuel H t a p hi hf hp hadv hrd ho ha hr
  obtain ⟨fuel,rfl⟩:=Zs fuel (by omega)
  obtain ⟨v,H1,a1,a2,a3,a4,a5⟩:=pick_adv (show 1 ≤ k by omega) hrd (by omega) (pw n)
  have v1:=a5 (by omega)
  obtain ⟨w,H2,b1,b2,b3,b4,b5⟩:=pick_adv (show 1 ≤ k by omega) a2 (by omega) n
  have w1:=b5 (by omega)
  obtain ⟨z,H3,c1,c2,c3,c4,c5⟩:=pick_adv (show 1 ≤ k by omega) b2 (by omega) 3
  have z1:=c5 (by omega)
  obtain ⟨t1,t2,t3⟩:=topMask_pw hn
  have tl:=topMask_le n
  have hpw2:0 ≤ pw (1 + w)∧pw (1 + w) ≤ 16:=by
   have:w=0 ∨ w=1 ∨ w=2 ∨ w=3:=by omega
   rcases this with rfl | rfl | rfl | rfl <;> decide
  obtain ⟨y,e1,e2,e3⟩:∃ y,(([.int .i64 (v * 2),.int .i64 (topMask n),.int .i64 (pw (1 + w))]:List AV)[z.toNat * 1]?)=some (.int .i64 y)∧-2 ≤ y∧y ≤ 63:=by
   have:z=0 ∨ z=1 ∨ z=2:=by omega
   rcases this with rfl | rfl | rfl
   ·exact ⟨_,rfl,by omega,by omega⟩
   ·exact ⟨_,rfl,by omega,by omega⟩
   ·exact ⟨_,rfl,by omega,by omega⟩
  have adv3:=((a3.trans b3).trans c3)
  have ho3:=adv3.own hb ho
  have o':Own 1 [] H3 t (a.map (.int .i64)):=⟨ho3.nn,ho3.off,Nat.zero_le _,ho3.get,ho3.len⟩
  have htl:=(own_reads ho).len
  obtain ⟨H4,d1,d2,d3,d4,d5⟩:=own_app1 o' List.nil_prefix y (by omega)
  have hB3:=(hadv.trans adv3)
  have hle:=hB3.le
  have ho4:Own 1 B H4 (Sl.mk false H3.length 0 (t.len + 1)) ((a ++ [y]).map (.int .i64)):=⟨d3.nn,d3.off,hle,d3.get,d3.len⟩
  have:=ih (i + 1) fuel H4 _ (a ++ [y]) (p + 1 + 1 + 1) (by push_cast at hi ⊢; omega) (by omega) (by omega) (adv_but hB3 d4 ho3.blk (by omega)) (c2.but' d4 (by have:=ho3.blk; omega) ho3.get (ints_no_u8 _)) ho4 (by simp; omega) (fun m hm=>by
   rcases List.mem_append.1 hm with h | h
   ·exact hr m h
   ·rw [List.mem_singleton] at h; rw [h]; exact ⟨e2,e3⟩)
  push_cast at this
  have z3:z < ((3:Nat):Int):=by omega
  have e4:pw (n + 1) - 2=topMask n:=t1
  simp (disch:=omega) only [spec_l20Masks.l0,dt,df,bt,bf,nt,nf,Za,Zy,Zx,Zt,Zf,Zn,Zz,Zi,Zo,wr,AV.toB,AV.toI,AV.toS,if_true,wr (n:=n * n),wr (n:=n + 1),wr (n:=v * 2),wr (n:=1 + w),wr (n:=(i:Int) + 1),iN,m_shl (v:=n),m_shl (v:=n + 1),m_shl (v:=1 + w),a1,b1,c1,e4,wr (n:=topMask n),e1,AV.cell,d1]
  exact this
theorem l20Masks_ok {k:Nat} (hk:2000601 ≤ k) {b:Nat} {l:List Int} {x1:Int} (hx1:x1 < 1000000) {p:Nat} {H:Hp} (hrd:RD b H l p) (hp:p ≤ 800000000) :
  MasksDraw b l (p + 600) H (callF PP orc k spec_l20Masks.id [.ptr b 0,.int .i64 x1] H):=by
 obtain ⟨k,rfl⟩:=Zs k (by omega)
 rw [spec_l20Masks.call]
 obtain ⟨n,p1,H1,a1,a2,a3,a4,a5,a6,a7⟩:=l20Size_ok (show 3 ≤ k by omega) hrd (by omega) (n:=0) (by omega)
 have hn:=a7 (by omega)
 have hb0:=hrd.lt
 have q1:H1 <+: H1 ++ [some (Blk.mk false [])]:=List.prefix_append _ _
 have hnew:=own_new 1 H1 (([]:List Int).map (.int .i64)) 0 rfl
 have hnn:4 ≤ n * n∧n * n ≤ 16:=by
  have:n=2 ∨ n=3 ∨ n=4:=by omega
  rcases this with rfl | rfl | rfl <;> decide
 have:=Masks_l0 (show 2000600 ≤ k by omega) hx1 hn (p0:=p + 600) (by omega) hb0 (n * n).toNat 0 k (H1 ++ [some (Blk.mk false [])]) (Sl.mk false H1.length 0 0) [] p1 (by omega) (by omega) (by omega) (a4.trans (pf_adv q1)) (a2.pf q1) ⟨rfl,rfl,a4.le,by simp,rfl⟩ rfl (fun m hm=>by cases hm)
 simp only [spec_l20Masks.f,dt,df,bt,bf,nt,nf,Za,Zy,Zx,Zt,Zf,Zn,Zz,Zi,Zo,wr,AV.toB,AV.toI,AV.toS,if_true,a1]
 exact this
def DrawnM (H:Hp) (r:An):Prop:=∃ n t v H',r=some (.tup [.sl 1 t,.int .i64 n],H')∧H <+: H'∧Reads .i64 H' t v∧t.nil=false∧v.length ≤ 16∧(∀ m ∈ v,-2 ≤ m∧m ≤ 63)∧-1 ≤ n∧n ≤ 5
theorem open_masks {k:Nat} (hk:2000601 ≤ k) {H:Hp} {s:Sl} {l:List Int} (hs:Reads .u8 H s l) (hb:∀ x ∈ l,0 ≤ x∧x ≤ 255) {x1:Int} (hx1:x1 < 1000000) :
  ∃ H1 n t c l' p' H',callF PP orc k spec_l20Open.id [.sl 1 s] H=some (.ptr H.length 0,H1)∧callF PP orc k spec_l20Masks.id [.ptr H.length 0,.int .i64 x1] H1=some (.tup [.sl 1 t,.int .i64 n],H')∧H <+: H'∧H <+: H1∧MD H.length l' p' H1 H' t c∧p' ≤ 700∧-1 ≤ n∧n ≤ 5:=by
 obtain ⟨l',H1,a1,a2,a3,a4⟩:=l20Open_ok (show 1 ≤ k by omega) hs hb
 obtain ⟨n,t,c,p',H',b1,b2,b3,b4,b5⟩:=l20Masks_ok hk hx1 a3 (by omega)
 exact ⟨H1,n,t,c,l',p',H',a1,b1,b2.adv.but.pf (Nat.le_refl _) a2 b2.adv.le,a2,b2,by omega,b4,b5⟩
theorem MD.drawn {b:Nat} {l:List Int} {p:Nat} {B H0 H:Hp} {t:Sl} {c:List Int} (h:MD b l p B H t c) (g:H0 <+: H) {n:Int} (h1:-1 ≤ n) (h2:n ≤ 5):DrawnM H0 (some (.tup [.sl 1 t,.int .i64 n],H)):=
 ⟨n,t,valS t c,H,rfl,g,h.reads,h.nn,h.l16,h.rgv,h1,h2⟩

theorem allValues_ok {k:Nat} (hk:1 ≤ k) {n:Int} (hn:2 ≤ n∧n ≤ 4) (H:Hp):callF PP orc k impl_allValues.id [.int .i64 n] H=some (.int .i64 (topMask n),H):=by
 obtain ⟨k,rfl⟩:=Zs k (by omega)
 rw [impl_allValues.call]
 obtain ⟨p1,p2,p3⟩:=topMask_pw hn
 simp (disch:=omega) only [impl_allValues.f,iN,m_shl (v:=n + 1),p1,wr]
/-! ### impl.valuesHold -/
def KindLen (kind:Int) (m:Nat):Prop:=(kind=1 ∨ kind=2 ∨ kind=3) ∨ ((kind=4 ∨ kind=5)∧2 ≤ m)
theorem implHold_l0 {k:Nat} (hk:2000001 ≤ k) {kind value:Int} {cs vs:Sl} {H:Hp} {vals:List Int} (hs:Reads .i64 H vs vals) (hl:Vals vals) (h2:KindLen kind vals.length) :
  ∀ (j i fuel:Nat) (x5 x6:Int),i + j=vals.length→j < fuel→0 ≤ x5→x5 ≤ 4 * i→0 ≤ x6→x6 ≤ 4 ^ i →
   impl_valuesHold.l0 (callF PP orc k) k fuel vs x5 x6 vs vals.length i kind cs value H=some (.bool (if kind=1 then distFrom vals i j else if kind=2 then decide ((vals.drop i).foldl (· + ·) x5=value) else if kind=3 then decide ((vals.drop i).foldl (· * ·) x6=value)
    else if kind=4 then decide (vals.getD 0 0 < vals.getD 1 0) else decide (mx (vals.getD 0 0 - vals.getD 1 0) (vals.getD 1 0 - vals.getD 0 0)=value)),H):=by
 have hv:=hs.len
 have hl4:=hl.1
 have eqd:∀ a b:Int,(a == b)=decide (a=b):=fun a b=>by rw [Bool.eq_iff_iff]; simp
 unfold KindLen at h2
 intro j
 induction j with
 | zero=>
  intro i fuel x5 x6 hi hf h50 h51 h60 h61
  obtain ⟨fuel,rfl⟩:=Zs fuel (by omega)
  rw [show vals.drop i=[] from List.drop_eq_nil_of_le (by omega)]
  simp (disch:=omega) only [impl_valuesHold.l0,impl_valuesHold.j2,df,Zf,distFrom,List.foldl_nil,eqd]
  by_cases k1:kind=1
  ·subst k1; rfl
  by_cases k2:kind=2
  ·subst k2; rfl
  by_cases k3:kind=3
  ·subst k3; rfl
  have hlen:2 ≤ vals.length:=by omega
  have a0:=hl.at 0
  have a1:=hl.at 1
  by_cases k4:kind=4
  ·simp (disch:=omega) only [k2,k3,k4,if_false,dt,df,Za,Zt,Zf,rdn hs,Zo,wr,Zz,Zi]
   rfl
  ·have k5:kind=5:=by omega
   subst k5
   simp (disch:=omega) only [if_false,dt,df,Za,Zt,Zf,rdn hs,Zo,wr,Zz,Zi]
   rfl
 | succ j ih=>
  intro i fuel x5 x6 hi hf h50 h51 h60 h61
  obtain ⟨fuel,rfl⟩:=Zs fuel (by omega)
  have h3:i < vals.length:=by omega
  obtain ⟨a0,a1⟩:=hl.at i
  have hd:(vals.drop i)=vals.getD i 0 :: vals.drop (i + 1):=by
   rw [List.drop_eq_getElem_cons h3,List.getD_eq_getElem?_getD,List.getElem?_eq_getElem h3]; rfl
  have hp:(4:Int) ^ i ≤ 64:=by
   have:i=0 ∨ i=1 ∨ i=2 ∨ i=3:=by omega
   rcases this with rfl | rfl | rfl | rfl <;> decide
  have hm:x6 * vals.getD i 0 ≤ x6 * 4:=Int.mul_le_mul_of_nonneg_left a1 h60
  have hm0:0 ≤ x6 * vals.getD i 0:=Int.mul_nonneg h60 a0
  have hq:(4:Int) ^ (i + 1)=4 ^ i * 4:=Int.pow_succ _ _
  have h6:=ih (i + 1) fuel (x5 + vals.getD i 0) (x6 * vals.getD i 0) (by omega) (by omega) (by omega) (by omega) (by omega) (by omega)
  push_cast at h6
  rw [hd,List.foldl_cons,List.foldl_cons]
  by_cases k1:kind=1
  ·have hc:=Contains_ok hk (vals.getD i 0) (reads_pre hs i (by omega) vs.nil) (by simp; omega)
   have hsl:Sl.mk vs.nil vs.blk (vs.off + 0 * 1) ((i:Int) - 0).toNat=Sl.mk vs.nil vs.blk vs.off i:=by simp
   subst k1
   simp only [if_true] at h6 ⊢
   rw [distFrom]
   simp (disch:=omega) only [impl_valuesHold.l0,dt,bt,Za,Zt,Zn,Zz,rdn hs,Zo,wr,hsl]
   rw [ip (by simp; omega),hc]
   cases (vals.take i).contains (vals.getD i 0) with
   | true=>simp only [impl_valuesHold.j1,dt,df,bt,bf,nt,nf,Za,Zy,Zx,Zt,Zf,Zn,Zz,Zi,Zo,wr,AV.toB,AV.toI,AV.toS,if_true,Bool.false_and]
   | false=>simp (disch:=omega) only [impl_valuesHold.j1,impl_valuesHold.j3,dt,df,bt,bf,nt,nf,Za,Zy,Zx,Zt,Zf,Zn,Zz,Zi,Zo,wr,AV.toB,AV.toI,AV.toS,if_true,h6,Bool.true_and]
  ·simp only [if_neg k1] at h6 ⊢
   simp (disch:=omega) only [impl_valuesHold.l0,impl_valuesHold.j1,impl_valuesHold.j3,dt,bf,Za,Zt,Zf,Zn,rdn hs,Zo,wr,h6]
theorem valuesHold_ok {k:Nat} (hk:2000002 ≤ k) {kind value:Int} {cs vs:Sl} {H:Hp} {vals:List Int} (hs:Reads .i64 H vs vals) (hl:Vals vals) (h2:KindLen kind vals.length) :
  callF PP orc k impl_valuesHold.id [.agg [.int .i64 kind,.sl 1 cs,.int .i64 value],.sl 1 vs] H=some (.bool (holdsV kind value vals),H):=by
 obtain ⟨k,rfl⟩:=Zs k (by omega)
 rw [impl_valuesHold.call]
 have h4:=hl.1
 have:=implHold_l0 (show 2000001 ≤ k by omega) (kind:=kind) (value:=value) (cs:=cs) hs hl h2 vals.length 0 k 0 1 (by omega) (by omega) (by omega) (by omega) (by omega) (by omega)
 simp only [List.drop_zero] at this
 have e:=hs.len
 show impl_valuesHold.l0 (callF PP orc k) k k vs 0 1 vs (vs.len:Int) 0 kind cs value H=_
 rw [e]
 exact this
/-! ### impl.ruleMasks -/
structure Try (H:Hp) (cb:Nat) (rb vb ob tb:Nat) (kind value:Int) (cs ws vs os:Sl):Prop where
 c:H[cb]?=some (some ⟨false,[.sl 1 ws]⟩)
 r:H[rb]?=some (some ⟨false,[.int .i64 kind,.sl 1 cs,.int .i64 value]⟩)
 v:H[vb]?=some (some ⟨false,[.sl 1 vs]⟩)
 o:H[ob]?=some (some ⟨false,[.sl 1 os]⟩)
 t:H[tb]?=some (some ⟨false,[.fn impl_ruleMasks_1.id [.ptr cb 0,.ptr rb 0,.ptr vb 0,.ptr ob 0,.ptr tb 0]]⟩)
 ne:(cb ≠ vs.blk∧cb ≠ os.blk)∧(rb ≠ vs.blk∧rb ≠ os.blk)∧(vb ≠ vs.blk∧vb ≠ os.blk)∧(ob ≠ vs.blk∧ob ≠ os.blk)∧(tb ≠ vs.blk∧tb ≠ os.blk)
theorem Try.adv {H H':Hp} {cb rb vb ob tb:Nat} {kind value:Int} {cs ws vs os:Sl} (h:Try H cb rb vb ob tb kind value cs ws vs os) (g:Adv2 vs.blk os.blk H H'):Try H' cb rb vb ob tb kind value cs ws vs os:=by
 obtain ⟨n1,n2,n3,n4,n5⟩:=h.ne
 exact ⟨g.but _ _ n1.1 n1.2 h.c,g.but _ _ n2.1 n2.2 h.r,g.but _ _ n3.1 n3.2 h.v,g.but _ _ n4.1 n4.2 h.o,g.but _ _ n5.1 n5.2 h.t,h.ne⟩
theorem box_sl {H:Hp} {b:Nat} {s:Sl} (h:H[b]?=some (some ⟨false,[.sl 1 s]⟩)):ldS 1 H b 0=some s:=by unfold ldS Hp.cell; rw [h]; simp [AV.toS]
theorem adv_adv2 {a c:Nat} {H H':Hp} (h:Adv a H H'):Adv2 a c H H':=⟨fun d x h1 _ hx=>h.but d x h1 hx,h.le⟩
theorem adv_adv2' {a c:Nat} {H H':Hp} (h:Adv c H H'):Adv2 a c H H':=⟨fun d x _ h2 hx=>h.but d x h2 hx,h.le⟩
theorem Adv2.tr {a c:Nat} {H H1 H2:Hp} (h:Adv2 a c H H1) (h':Adv2 a c H1 H2):Adv2 a c H H2:=h.trans h' (.inl rfl)
theorem Try_l0 (rec:Rec) (k:Nat) {B:Hp} {ob:Nat} {vs os:Sl} {vals:List Int} (hv:Vals vals) (hne:vs.blk ≠ os.blk) (hob:ob ≠ os.blk) :
  ∀ (j i fuel:Nat) (H:Hp) (fl:List Int),i + j=vals.length→j < fuel→B <+: H→Reads .i64 H vs vals→H[ob]?=some (some ⟨false,[.sl 1 os]⟩)→Ms fl→vals.length ≤ fl.length→Own 1 B H os (fl.map (.int .i64)) →
   ∃ H',impl_ruleMasks_1.l0 rec k fuel ob 0 vs vals.length i H=some (.tup [],H')∧B <+: H'∧Adv os.blk H H'∧Own 1 B H' os ((orFrom vals fl i j).map (.int .i64)):=by
 have hl:=hv.1
 intro j
 induction j with
 | zero=>
  intro i fuel H fl hi hf hp hs hb hm hfl ho
  obtain ⟨fuel,rfl⟩:=Zs fuel (by omega)
  exact ⟨H,by simp (disch:=omega) only [impl_ruleMasks_1.l0,dt,df,bt,bf,nt,nf,Za,Zy,Zx,Zt,Zf,Zn,Zz,Zi,Zo,wr,AV.toB,AV.toI,AV.toS,if_true],hp,Adv.refl _ _,ho⟩
 | succ j ih=>
  intro i fuel H fl hi hf hp hs hb hm hfl ho
  obtain ⟨fuel,rfl⟩:=Zs fuel (by omega)
  have hfs:os.len=fl.length:=by have:=ho.len; simpa using this
  have hvl:=hs.len
  obtain ⟨v0,v1⟩:=hv.at i
  obtain ⟨H1,a1,a2,a3,a4⟩:=own_set1 ho hp i (by omega) (mOr (fl.getD i 0) (pw (vals.getD i 0)))
  obtain ⟨H',b1,b2,b3,b4⟩:=ih (i + 1) fuel H1 _ (by omega) (by omega) a2 (a4.reads hne hs) (a4.but _ _ hob hb) (hm.set i (M.or (hm.at i) (M.pw v0 v1))) (by simpa using hfl) a3
  push_cast at b1
  refine ⟨H',?_,b2,a4.trans b3,b4⟩
  simp (disch:=omega) only [impl_ruleMasks_1.l0,dt,df,bt,bf,nt,nf,Za,Zy,Zx,Zt,Zf,Zn,Zz,Zi,Zo,wr,AV.toB,AV.toI,AV.toS,if_true,box_sl hb,rdn (own_reads ho),rdn hs,iN,m_shl v0,m_or (hm.at i) (M.pw v0 v1),a1,b1]
theorem okTry:okF PP impl_ruleMasks_1.id=true:=by kernel_rfl
theorem Try_ok {B:Hp} {cb rb vb ob tb:Nat} {kind value:Int} {cs ws vs os:Sl} {own:List Int} (hw:Reads .i64 B ws own) (hol:own.length ≤ 4) (hom:∀ m ∈ own,(0 ≤ m∧m ≤ 30)∧m.tmod 2=0) (hk2:KindLen kind own.length) (hne:vs.blk ≠ os.blk) :
  ∀ (rem k:Nat),2000010 + rem ≤ k→∀ (H:Hp) (vals rest fl:List Int),vals.length + rem=own.length→rest.length=rem→B <+: H→Try H cb rb vb ob tb kind value cs ws vs os→Own 1 B H vs ((vals ++ rest).map (.int .i64))→Vals vals→fl.length=own.length→Ms fl→Own 1 B H os (fl.map (.int .i64)) →
   ∃ H' rest',callF PP orc k impl_ruleMasks_1.id [.int .i64 (vals.length:Int),.ptr cb 0,.ptr rb 0,.ptr vb 0,.ptr ob 0,.ptr tb 0] H=some (.tup [],H')∧rest'.length=rem∧B <+: H'∧Adv2 vs.blk os.blk H H'∧Own 1 B H' vs ((vals ++ rest').map (.int .i64))∧Own 1 B H' os ((ways (holdsV kind value) (own.drop vals.length) vals fl).map (.int .i64)):=by
 intro rem
 induction rem with
 | zero=>
  intro k hk H vals rest fl hl hr hp ht hv hvals hfl hm ho
  obtain ⟨k,rfl⟩:=Zs k (by omega)
  rw [impl_ruleMasks_1.call]
  have er:rest=[]:=List.length_eq_zero_iff.1 hr
  subst er
  rw [List.append_nil] at hv
  have hwl:=hw.len
  have rv:=own_reads hv
  have hvl:=rv.len
  have h1:=valuesHold_ok (show 2000002 ≤ k by omega) (kind:=kind) (value:=value) (cs:=cs) rv hvals (by rw [show vals.length=own.length by omega]; exact hk2)
  have r0:ldI .i64 H rb 0=some kind:=by unfold ldI Hp.cell; rw [ht.r]; simp [AV.toI]
  have r1:ldS 1 H rb (0 + 1)=some cs:=by unfold ldS Hp.cell; rw [ht.r]; simp [AV.toS]
  have r2:ldI .i64 H rb (0 + 1 + 1)=some value:=by unfold ldI Hp.cell; rw [ht.r]; simp [AV.toI]
  rw [show own.drop vals.length=[] from List.drop_eq_nil_of_le (by omega),ways]
  cases hh:holdsV kind value vals with
  | true=>
   rw [hh] at h1
   obtain ⟨H',b1,b2,b3,b4⟩:=Try_l0 (callF PP orc k) k hvals hne ht.ne.2.2.2.1.2 vals.length 0 k H fl (by omega) (by have:=hvals.1; omega) hp rv ht.o hm (by omega) ho
   refine ⟨H',[],?_,rfl,b2,adv_adv2' b3,by rw [List.append_nil]; exact b3.but.own hne hv,b4⟩
   simp only [Int.natCast_zero] at b1
   simp (disch:=omega) only [impl_ruleMasks_1.f,dt,df,bt,bf,nt,nf,Za,Zy,Zx,Zt,Zf,Zn,Zz,Zi,Zo,wr,AV.toB,AV.toI,AV.toS,if_true,box_sl ht.c,box_sl ht.v,r0,r1,r2,h1,hvl,b1]
  | false=>
   rw [hh] at h1
   refine ⟨H,[],?_,rfl,hp,Adv2.refl _ _ _,by rw [List.append_nil]; exact hv,by simpa using ho⟩
   simp (disch:=omega) only [impl_ruleMasks_1.f,dt,df,bt,bf,nt,nf,Za,Zy,Zx,Zt,Zf,Zn,Zz,Zi,Zo,wr,AV.toB,AV.toI,AV.toS,if_true,box_sl ht.c,box_sl ht.v,r0,r1,r2,h1]
 | succ rem ih=>
  intro k hk H vals rest fl hl hr hp ht hv hvals hfl hm ho
  obtain ⟨k,rfl⟩:=Zs k (by omega)
  rw [impl_ruleMasks_1.call]
  have hwl:=hw.len
  have hcv:vals.length < own.length:=by omega
  have hom':=hom _ (mem_getD hcv)
  have hd:own.drop vals.length=own.getD vals.length 0 :: own.drop (vals.length + 1):=by
   rw [List.drop_eq_getElem_cons hcv,List.getD_eq_getElem?_getD,List.getElem?_eq_getElem hcv]; rfl
  rw [hd,ways]
  generalize hmm:own.getD vals.length 0=m at *
  have hM:M m:=⟨hom'.1.1,by have:=hom'.1.2; omega⟩
  have hmv:maskVals m=mvFrom m 1 4:=by unfold maskVals; rw [if_pos hom']
  rw [hmv]
  have loop:∀ (j v fuel:Nat) (Hc:Hp) (rest fl:List Int),v + j=5→1 ≤ v→j < fuel→rest.length=rem + 1→B <+: Hc→Try Hc cb rb vb ob tb kind value cs ws vs os→Own 1 B Hc vs ((vals ++ rest).map (.int .i64))→fl.length=own.length→Ms fl→Own 1 B Hc os (fl.map (.int .i64)) →
    ∃ H' rest',impl_ruleMasks_1.l1 (callF PP orc k) k fuel (vals.length:Int) cb 0 vb 0 tb 0 v Hc=some (.tup [],H')∧rest'.length=rem + 1∧B <+: H'∧Adv2 vs.blk os.blk Hc H'∧Own 1 B H' vs ((vals ++ rest').map (.int .i64))∧Own 1 B H' os (((mvFrom m v j).foldl (fun f v=>ways (holdsV kind value) (own.drop (vals.length + 1)) (vals ++ [v]) f) fl).map (.int .i64)):=by
   intro j
   induction j with
   | zero=>
    intro v fuel Hc rest fl hv5 hv1 hf hr hp ht hv hfl hm ho
    obtain ⟨fuel,rfl⟩:=Zs fuel (by omega)
    refine ⟨Hc,rest,?_,hr,hp,Adv2.refl _ _ _,hv,ho⟩
    simp (disch:=omega) only [impl_ruleMasks_1.l1,dt,df,bt,bf,nt,nf,Za,Zy,Zx,Zt,Zf,Zn,Zz,Zi,Zo,wr,AV.toB,AV.toI,AV.toS,if_true]
   | succ j ihj=>
    intro v fuel Hc rest fl hv5 hv1 hf hr hp ht hv hfl hm ho
    obtain ⟨fuel,rfl⟩:=Zs fuel (by omega)
    have hvl:=(own_reads hv).len
    simp only [List.length_append] at hvl
    have hb:mbit m v=has m v:=by
     have:=m_bit (v:=(v:Int)) hM (by omega) (by omega)
     simpa [mbit] using this
    have hbit:=m_bit' (v:=(v:Int)) hM (by omega) (by omega)
    rw [Int.toNat_natCast] at hbit
    rw [mvFrom,hb]
    cases hh:has m v with
    | true=>
     rw [hh] at hbit
     obtain ⟨x,rest0,rfl⟩:∃ x rest0,rest=x :: rest0:=by
      cases rest with
      | nil=>simp at hr
      | cons x r=>exact ⟨x,r,rfl⟩
     obtain ⟨H1,a1,a2,a3,a4⟩:=own_set1 hv hp vals.length (by simp) (v:Int)
     have e1:(vals ++ x :: rest0).set vals.length (v:Int)=(vals ++ [(v:Int)]) ++ rest0:=by
      rw [List.set_append_right _ _ (Nat.le_refl _),Nat.sub_self,List.set_cons_zero,List.append_assoc]; rfl
     rw [e1] at a3
     have ht1:=ht.adv (adv_adv2 (c:=os.blk) a4)
     have hw1:=ways_ok (holdsV kind value) (own.drop (vals.length + 1)) (vals ++ [(v:Int)]) fl (hvals.app (by omega) ⟨by omega,by omega⟩) (by simp; omega) hm
     obtain ⟨H2,rest',b1,b2,b3,b4,b5,b6⟩:=ih k (by omega) H1 (vals ++ [(v:Int)]) rest0 fl (by simp; omega) (by simpa using hr) a2 ht1 a3 (hvals.app (by omega) ⟨by omega,by omega⟩) hfl hm (a4.but.own (Ne.symm hne) ho)
     rw [List.length_append,List.length_singleton] at b1 b6
     rw [List.append_assoc] at b5
     have adv2:Adv2 vs.blk os.blk Hc H2:=(adv_adv2 (c:=os.blk) a4).tr b4
     obtain ⟨H3,rest'',d1,d2,d3,d4,d5,d6⟩:=ihj (v + 1) fuel H2 ([(v:Int)] ++ rest') _ (by omega) (by omega) (by omega) (by simp; omega) b3 (ht.adv adv2) b5 (by rw [hw1.2]; exact hfl) hw1.1 b6
     have hf0:ldF H1 tb 0=some (impl_ruleMasks_1.id,[.ptr cb 0,.ptr rb 0,.ptr vb 0,.ptr ob 0,.ptr tb 0]):=by unfold ldF Hp.cell; rw [ht1.t]; simp [AV.toF]
     refine ⟨H3,rest'',?_,d2,d3,adv2.tr d4,d5,?_⟩
     ·push_cast at d1 b1
      have rw0:=rdn (pf_reads hp hw) hcv
      rw [hmm] at rw0
      simp (disch:=omega) only [impl_ruleMasks_1.l1,impl_ruleMasks_1.j2,dt,Za,Zt,Zn,Zo,box_sl ht.c,box_sl ht.v,rw0,iN,hbit,hvl,a1,hf0,okTry,wr (n:=(vals.length:Int) + 1),wr (n:=(v:Int) + 1),List.cons_append,List.nil_append,List.all_cons,List.all_nil,AV.glob,AV.cell,b1,d1]
     ·rw [if_pos rfl,List.cons_append,List.nil_append,List.foldl_cons]; exact d6
    | false=>
     rw [hh] at hbit
     obtain ⟨H3,rest'',d1,d2,d3,d4,d5,d6⟩:=ihj (v + 1) fuel Hc rest fl (by omega) (by omega) (by omega) hr hp ht hv hfl hm ho
     refine ⟨H3,rest'',?_,d2,d3,d4,d5,?_⟩
     ·push_cast at d1
      have rw0:=rdn (pf_reads hp hw) hcv
      rw [hmm] at rw0
      simp (disch:=omega) only [impl_ruleMasks_1.l1,impl_ruleMasks_1.j2,dt,Za,Zt,Zf,Zn,Zo,box_sl ht.c,rw0,iN,hbit,wr (n:=(v:Int) + 1),d1]
     ·rw [if_neg (by simp),List.nil_append]; exact d6
  obtain ⟨H',rest',b1,b2,b3,b4,b5,b6⟩:=loop 4 1 k H rest fl (by omega) (by omega) (by omega) hr hp ht hv hfl hm ho
  refine ⟨H',rest',?_,b2,b3,b4,b5,b6⟩
  simp (disch:=omega) only [impl_ruleMasks_1.f,dt,df,bt,bf,nt,nf,Za,Zy,Zx,Zt,Zf,Zn,Zz,Zi,Zo,wr,AV.toB,AV.toI,AV.toS,if_true,box_sl ht.c]
  exact b1
def NilOr (H0 H:Hp) (t:Sl) (l:List Int):Prop:=(t=Sl.none∧l=[]) ∨ Own 1 H0 H t (l.map (.int .i64))
theorem NilOr.reads {H0 H:Hp} {t:Sl} {l:List Int} (h:NilOr H0 H t l):Reads .i64 H t l:=by
 rcases h with ⟨h1,h2⟩ | h
 ·subst h1; subst h2; exact reads_nil rfl
 ·exact own_reads h
theorem NilOr.pf {H0 H H':Hp} {t:Sl} {l:List Int} (h:NilOr H0 H t l) (g:H <+: H'):NilOr H0 H' t l:=by
 rcases h with h | h
 ·exact .inl h
 ·exact .inr (own_pf h g)
theorem NilOr.base {H0 H1 H:Hp} {t:Sl} {l:List Int} (h:NilOr H1 H t l) (g:H0 <+: H1):NilOr H0 H t l:=by
 rcases h with h | h
 ·exact .inl h
 ·exact .inr (own_base h g)
theorem NilOr.nn {H0 H:Hp} {t:Sl} {l:List Int} (h:NilOr H0 H t l) (hl:l ≠ []):t.nil=false:=by
 rcases h with ⟨_,h⟩ | h
 ·exact absurd h hl
 ·exact h.nn
theorem all_getD {p:Int→Bool} {l:List Int} {i:Nat} (h:i < l.length):(l.drop i).all p=(p (l.getD i 0) && (l.drop (i + 1)).all p):=by
 rw [List.drop_eq_getElem_cons h,List.all_cons,List.getD_eq_getElem?_getD,List.getElem?_eq_getElem h]; rfl
theorem tab_andnot:∀ n:Nat,n < 5→∀ m:Nat,m < 64→(n < 2 ∨ ((IntKind.i64.wrap (((BitVec.ofInt IntKind.i64.bits ((m:Nat):Int) &&& ~~~(BitVec.ofInt IntKind.i64.bits (topMask n))).toNat:Int))) != 0)=!maskOk n m):=by decide +kernel
theorem implMasksValid_l2 {k:Nat} (hk:1 ≤ k) {n:Int} (hn:2 ≤ n∧n ≤ 4) {H:Hp} {s:Sl} {l:List Int} (hs:Reads .i64 H s l) (hl:l.length ≤ 1000) (hr:∀ m ∈ l,-2 ≤ m∧m ≤ 63) :
  ∀ (j i fuel:Nat),i + j=l.length→j < fuel→impl_MasksValid.l2 (callF PP orc k) k fuel n s (l.length:Int) i H=some (.bool ((l.drop i).all (maskOk n)),H):=by
 have hsl:=hs.len
 intro j
 induction j with
 | zero=>
  intro i fuel hi hf
  obtain ⟨fuel,rfl⟩:=Zs fuel (by omega)
  rw [List.drop_eq_nil_of_le (by omega)]
  simp (disch:=omega) only [impl_MasksValid.l2,dt,df,bt,bf,nt,nf,Za,Zy,Zx,Zt,Zf,Zn,Zz,Zi,Zo,wr,AV.toB,AV.toI,AV.toS,if_true,List.all_nil]
 | succ j ih=>
  intro i fuel hi hf
  obtain ⟨fuel,rfl⟩:=Zs fuel (by omega)
  have hi2:i < l.length:=by omega
  have hm:=hr _ (mem_getD hi2)
  have d1:=ih (i + 1) fuel (by omega) (by omega)
  push_cast at d1
  rw [all_getD hi2]
  by_cases c:l.getD i 0 < 0
  ·have e:maskOk n (l.getD i 0)=false:=by
    rw [Bool.eq_false_iff]; intro h; have:=(maskOk_iff.1 h).1; omega
   rw [e,Bool.false_and]
   simp (disch:=omega) only [impl_MasksValid.l2,impl_MasksValid.j3,dt,df,bt,bf,nt,nf,Za,Zy,Zx,Zt,Zf,Zn,Zz,Zi,Zo,wr,AV.toB,AV.toI,AV.toS,if_true,rdn hs]
  ·have ht:=tab_andnot n.toNat (by omega) (l.getD i 0).toNat (by omega)
   rw [show ((n.toNat:Nat):Int)=n by omega,show (((l.getD i 0).toNat:Nat):Int)=l.getD i 0 by omega] at ht
   have ht':=ht.resolve_left (by omega)
   cases e:maskOk n (l.getD i 0) with
   | false=>
    rw [e] at ht'
    simp (disch:=omega) only [impl_MasksValid.l2,impl_MasksValid.j3,dt,df,bt,bf,nt,nf,Za,Zy,Zx,Zt,Zf,Zn,Zz,Zi,Zo,wr,AV.toB,AV.toI,AV.toS,if_true,rdn hs,allValues_ok hk hn,ht',Bool.false_and]
   | true=>
    rw [e] at ht'
    simp (disch:=omega) only [impl_MasksValid.l2,impl_MasksValid.j3,impl_MasksValid.j4,dt,df,bt,bf,nt,nf,Za,Zy,Zx,Zt,Zf,Zn,Zz,Zi,Zo,wr,AV.toB,AV.toI,AV.toS,if_true,rdn hs,allValues_ok hk hn,ht',Bool.true_and,d1]
theorem implMasksValid_ok {k:Nat} (hk:2000000 ≤ k) {n:Int} (hb:-1 ≤ n∧n ≤ 5) {H:Hp} {s:Sl} {l:List Int} (hs:Reads .i64 H s l) (hl:l.length ≤ 1000) (hr:∀ m ∈ l,-2 ≤ m∧m ≤ 63) :
  callF PP orc k impl_MasksValid.id [.sl 1 s,.int .i64 n] H=some (.bool (masksOk n l),H):=by
 obtain ⟨k,rfl⟩:=Zs k (by omega)
 rw [impl_MasksValid.call]
 have hsl:=hs.len
 have h1:=sizeOk_ok (show 1 ≤ k by omega) n H
 have h7:=n7 hb
 unfold masksOk
 by_cases hn:2 ≤ n∧n ≤ 4
 ·rw [decide_eq_true hn] at h1 ⊢
  by_cases c:(l.length:Int)=n * n
  ·have d1:=implMasksValid_l2 (show 1 ≤ k by omega) hn hs hl hr l.length 0 k (by omega) (by omega)
   simp only [Int.natCast_zero,List.drop_zero] at d1
   rw [decide_eq_true c,Bool.and_true,Bool.true_and]
   simp (disch:=omega) only [impl_MasksValid.f,impl_MasksValid.j0,impl_MasksValid.j1,dt,df,bt,bf,nt,nf,Za,Zy,Zx,Zt,Zf,Zn,Zz,Zi,Zo,wr,AV.toB,AV.toI,AV.toS,if_true,h1,hsl,wr (n:=n * n),nf c,d1]
  ·rw [decide_eq_false c,Bool.and_false,Bool.and_false]
   simp (disch:=omega) only [impl_MasksValid.f,impl_MasksValid.j0,impl_MasksValid.j1,dt,df,bt,bf,nt,nf,Za,Zy,Zx,Zt,Zf,Zn,Zz,Zi,Zo,wr,AV.toB,AV.toI,AV.toS,if_true,h1,hsl,wr (n:=n * n),nt c]
 ·rw [decide_eq_false hn] at h1 ⊢
  rw [Bool.false_and]
  simp only [impl_MasksValid.f,impl_MasksValid.j0,dt,df,bt,bf,nt,nf,Za,Zy,Zx,Zt,Zf,Zn,Zz,Zi,Zo,wr,AV.toB,AV.toI,AV.toS,if_true,h1]






end Go.Proofs.Ytjojhbdghhmeeaa.Rp
