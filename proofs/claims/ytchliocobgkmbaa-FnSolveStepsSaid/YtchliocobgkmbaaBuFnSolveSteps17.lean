/- Texts for the row of the law FnSolveSteps, part 17: the plain machine, the program's functions on it, what they come to. No conditions. -/
import Derived.Test.YtchliocobgkmbaaBuFnSolveSteps16
import Derived.Test.YtchliocobgkmbaaBuFnSolveSteps10
import Derived.Test.YtchliocobgkmbaaBuFnSolveSteps11
import Derived.Test.YtchliocobgkmbaaBuFnSolveSteps13
import Derived.Test.YtchliocobgkmbaaBuFnSolveSteps15
import Derived.Test.YtchliocobgkmbaaBuFnSolveSteps12
set_option linter.unusedVariables false
set_option linter.unusedSimpArgs false
namespace Go.Proofs.Ytchliocobgkmbaa.Rp
open Go Go.RowKit Go.Proofs.Ytchliocobgkmbaa.Ab
theorem PQ2_symm {n:Int} {l:List Int} {line i j x w:Nat} (h:PQ2 n l line i j x w):PQ2 n l line j i x w:=by
 obtain ⟨h1,h2,u,h3,h4,h5,h6,h7⟩:=h
 exact ⟨h1.symm,by rw [← h1]; exact h2,u,h3,h5,h4,h6,by rw [← h1]; exact h7⟩
theorem iPairs_l13 (rec:Rec) (k:Nat) (L0:Sl→Int→Sl→Int→Int→Hp→An) (L1:Sl→Int→Sl→Sl→Int→Int→Sl→Int→Int→Hp→An) (L5:Sl→Int→Sl→Sl→Int→Int→Int→Sl→Int→Int→Sl→Int→Int→Hp→An) {H0 Hb:Hp} {ms t cs x28 x38:Sl} {l:List Int} {n x21 x22 x29 x30 x39 x40:Int} {line i jj:Nat} (hmk:masksOk n l=true) (hm:Reads .i64 H0 ms l) (hline:(line:Int) < 2 * n) (htb:t.blk < Hb.length) (hi:(i:Int) < n) (hj:(jj:Int) < n) :
  ∀ (j q fuel:Nat) (H:Hp) (a:List Int) (P:Nat→Nat→Prop),(q:Int) + j=n→j < fuel→H0 <+: H→Own 1 Hb H cs ((lineCells n line).map (.int .i64))→Own 1 H0 H t (a.map (.int .i64))→Sub l a P →
   ∃ H' a',impl_NarrowPairs.l13 rec k L0 L1 L5 fuel ms n t cs (lc n line i:Int) (lc n line jj:Int) x21 x22 x28 x29 x30 x38 x39 x40 cs n q H=L5 ms n t cs (lc n line i:Int) x21 x22 x28 x29 x30 x38 x39 (IntKind.i64.wrap (x40 + 1)) H'∧H0 <+: H'∧Own 1 H0 H' t (a'.map (.int .i64))∧Adv t.blk H H'∧Sub l a' (fun x w=>P x w ∨ ∃ u:Nat,q ≤ u∧(u:Int) < n∧u ≠ i∧u ≠ jj∧x=lc n line u∧has (l.getD (lc n line i) 0) w=true):=by
 obtain ⟨l4,l16,lN,hN,n2,n4⟩:=masks_len hmk
 have hll:=line_len hmk hline
 have hn:2 ≤ n∧n ≤ 4:=(masksOk_iff.1 hmk).1
 have hsz:=(masksOk_iff.1 hmk).2.2
 have hM:=masks_M hmk
 have hml:=hm.len
 intro j
 induction j with
 | zero=>
  intro q fuel H a P hq hf hp hc ho hs
  obtain ⟨fuel,rfl⟩:=Zs fuel (by omega)
  refine ⟨H,a,?_,hp,ho,Adv.refl _ _,hs.congr fun x w hx=>⟨.inl,by rintro (h | ⟨u,h1,h2,_⟩); exact h; omega⟩⟩
  simp (disch:=omega) only [impl_NarrowPairs.l13,impl_NarrowPairs.j11,df,Zf]
 | succ j ih=>
  intro q fuel H a P hq hf hp hc ho hs
  obtain ⟨fuel,rfl⟩:=Zs fuel (by omega)
  have hal:=hs.len
  have htl:t.len=a.length:=by have:=ho.len; simpa using this
  have hcl:=(own_reads hc).len
  have cq:=lc_lt hn hline (show (q:Int) < n by omega)
  have ci:=lc_lt hn hline hi
  have hrq:=rdn (own_reads hc) (i:=q) (by omega)
  rw [← cq.2] at hrq
  have hrm:=pf_reads hp hm
  have inj:∀ u:Nat,(u:Int) < n→u ≠ q→lc n line q ≠ lc n line u:=fun u hu hne=>(lc_peer hn hline (show (q:Int) < n by omega) hu (fun e=>hne e.symm)).1
  by_cases c:q ≠ i∧q ≠ jj
  ·have n1:=inj i hi (fun e=>c.1 e.symm)
   have n2:=inj jj hj (fun e=>c.2 e.symm)
   obtain ⟨H1,d1,d2,d3,d4⟩:=own_set1 ho hp (lc n line q) (by omega) (mSub (a.getD (lc n line q) 0) (l.getD (lc n line i) 0))
   obtain ⟨H',a',e1,e2,e3,e4,e5⟩:=ih (q + 1) fuel H1 _ _ (by omega) (by omega) d2 (d4.own htb hc) d3 (hs.step _ (by omega) (hM.at (lc n line i)))
   push_cast at e1
   refine ⟨H',a',?_,e2,e3,d4.trans e4,e5.congr fun x w hx=>?_⟩
   ·simp (disch:=omega) only [impl_NarrowPairs.l13,impl_NarrowPairs.j14,impl_NarrowPairs.j15,impl_NarrowPairs.j16,impl_NarrowPairs.j18,impl_NarrowPairs.j19,dt,nt,Za,Zt,Zn,Zo,hrq,rdn (own_reads ho),rdn hrm,m_sub (hs.ms.at _) (hM.at _),d1,wr (n:=(q:Int) + 1),e1]
   ·constructor
    ·rintro ((h | ⟨h1,h2⟩) | ⟨u,h1,h2⟩)
     ·exact .inl h
     ·exact .inr ⟨q,Nat.le_refl _,by omega,c.1,c.2,h1,h2⟩
     ·exact .inr ⟨u,by omega,h2⟩
    ·rintro (h | ⟨u,h1,h2,h3,h4,h5,h6⟩)
     ·exact .inl (.inl h)
     ·by_cases e:u=q
      ·subst e; exact .inl (.inr ⟨h5,h6⟩)
      ·exact .inr ⟨u,by omega,h2,h3,h4,h5,h6⟩
  ·obtain ⟨H',a',e1,e2,e3,e4,e5⟩:=ih (q + 1) fuel H a P (by omega) (by omega) hp hc ho hs
   push_cast at e1
   refine ⟨H',a',?_,e2,e3,e4,e5.congr fun x w hx=>?_⟩
   ·by_cases c1':q=i
    ·subst c1'
     simp (disch:=omega) only [impl_NarrowPairs.l13,impl_NarrowPairs.j14,impl_NarrowPairs.j15,impl_NarrowPairs.j17,impl_NarrowPairs.j18,impl_NarrowPairs.j19,dt,nf,Za,Zt,Zf,Zn,Zo,hrq,wr (n:=(q:Int) + 1),e1]
    ·have hqj:q=jj:=by omega
     subst hqj
     have n1:=inj i hi (fun e=>c1' e.symm)
     simp (disch:=omega) only [impl_NarrowPairs.l13,impl_NarrowPairs.j14,impl_NarrowPairs.j15,impl_NarrowPairs.j16,impl_NarrowPairs.j18,impl_NarrowPairs.j19,dt,nt,nf,Za,Zt,Zf,Zn,Zo,hrq,wr (n:=(q:Int) + 1),e1]
   ·constructor
    ·rintro (h | ⟨u,h1,h2⟩)
     ·exact .inl h
     ·exact .inr ⟨u,by omega,h2⟩
    ·rintro (h | ⟨u,h1,h2,h3,h4,h5,h6⟩)
     ·exact .inl h
     ·refine .inr ⟨u,?_,h2,h3,h4,h5,h6⟩
      by_cases e:u=q
      ·subst e; exact absurd ⟨h3,h4⟩ c
      ·omega
theorem iPairs_l5 {k:Nat} (hk:2000000 ≤ k) (L0:Sl→Int→Sl→Int→Int→Hp→An) (L1:Sl→Int→Sl→Sl→Int→Int→Sl→Int→Int→Hp→An) {H0 Hb:Hp} {ms t cs x28:Sl} {l:List Int} {n x21 x22 x29 x30:Int} {line i:Nat} (hmk:masksOk n l=true) (hm:Reads .i64 H0 ms l) (hline:(line:Int) < 2 * n) (htb:t.blk < Hb.length) (hi:(i:Int) < n) :
  ∀ (j p fuel:Nat) (H:Hp) (a:List Int) (P:Nat→Nat→Prop),((i + 1 + p:Nat):Int) + j=n→j < fuel→H0 <+: H→Own 1 Hb H cs ((lineCells n line).map (.int .i64))→Own 1 H0 H t (a.map (.int .i64))→Sub l a P →
   ∃ H' a',impl_NarrowPairs.l5 (callF Ab.PP orc k) k L0 L1 fuel ms n t cs (lc n line i:Int) x21 x22 x28 x29 x30 (Sl.mk cs.nil cs.blk (cs.off + (i + 1)) (n.toNat - (i + 1))) ((n.toNat - (i + 1):Nat):Int) p H=L1 ms n t cs x21 x22 x28 x29 (IntKind.i64.wrap (x30 + 1)) H'∧H0 <+: H'∧Own 1 H0 H' t (a'.map (.int .i64))∧Own 1 Hb H' cs ((lineCells n line).map (.int .i64))∧Sub l a' (fun x w=>P x w ∨ ∃ u:Nat,i + 1 + p ≤ u∧(u:Int) < n∧PQ2 n l line i u x w):=by
 obtain ⟨l4,l16,lN,hN,n2,n4⟩:=masks_len hmk
 have hll:=line_len hmk hline
 have hn:2 ≤ n∧n ≤ 4:=(masksOk_iff.1 hmk).1
 have hsz:=(masksOk_iff.1 hmk).2.2
 have hml:=hm.len
 intro j
 induction j with
 | zero=>
  intro p fuel H a P hq hf hp hc ho hs
  obtain ⟨fuel,rfl⟩:=Zs fuel (by omega)
  refine ⟨H,a,?_,hp,ho,hc,hs.congr fun x w hx=>⟨.inl,by rintro (h | ⟨u,h1,h2,_⟩); exact h; omega⟩⟩
  simp (disch:=omega) only [impl_NarrowPairs.l5,impl_NarrowPairs.j7,df,Zf]
 | succ j ih=>
  intro p fuel H a P hq hf hp hc ho hs
  obtain ⟨fuel,rfl⟩:=Zs fuel (by omega)
  have hcl:=(own_reads hc).len
  have ci:=lc_lt hn hline hi
  have cb:=lc_lt hn hline (show ((i + 1 + p:Nat):Int) < n by omega)
  have hrs:=reads_from (own_reads hc) (i + 1) (by omega)
  rw [hll] at hrs
  have hrp:=rdn hrs (i:=p) (by simp; omega)
  have edr:((lineCells n line).drop (i + 1)).getD p 0=(lineCells n line).getD (i + 1 + p) 0:=by
   rw [List.getD_eq_getElem?_getD,List.getElem?_drop,← List.getD_eq_getElem?_getD]
  rw [edr,← cb.2] at hrp
  have hrm:=pf_reads hp hm
  have hi2:lc n line i < l.length:=by omega
  have hb2:lc n line (i + 1 + p) < l.length:=by omega
  have h1:=OnesCount_ok (show 2 ≤ k by omega) (masks_at hmk hi2) H
  by_cases ce:l.getD (lc n line i) 0=l.getD (lc n line (i + 1 + p)) 0
  ·by_cases c3:cntM (l.getD (lc n line i) 0)=2
   ·obtain ⟨H2,a',b1,b2,b3,b4,b5⟩:=iPairs_l13 (callF Ab.PP orc k) k L0 L1 (impl_NarrowPairs.l5 (callF Ab.PP orc k) k L0 L1 fuel) (x21:=x21) (x22:=x22) (x28:=x28) (x29:=x29) (x30:=x30) (x38:=Sl.mk cs.nil cs.blk (cs.off + (i + 1)) (n.toNat - (i + 1))) (x39:=((n.toNat - (i + 1):Nat):Int)) (x40:=(p:Int)) hmk hm hline htb hi (jj:=i + 1 + p) (by omega) n.toNat 0 k H a P (by omega) (by omega) hp hc ho hs
    have hc2:=b4.own htb hc
    obtain ⟨H',a'',d1,d2,d3,d4,d5⟩:=ih (p + 1) fuel H2 a' _ (by omega) (by omega) b2 hc2 b3 b5
    push_cast at d1
    refine ⟨H',a'',?_,d2,d3,d4,d5.congr fun x w hx=>?_⟩
    ·simp only [Int.natCast_zero] at b1
     rw [← hN] at *
     have hlen:(cs.len:Int)=n:=by omega
     have hc2':((cntM (l.getD (lc n line i) 0):Nat):Int)=2:=by omega
     simp (disch:=omega) only [impl_NarrowPairs.l5,impl_NarrowPairs.j6,impl_NarrowPairs.j9,impl_NarrowPairs.j10,impl_NarrowPairs.j12,dt,nf,Za,Zt,Zf,Zn,Zo,AV.toI,if_true,hrp,rdn hrm,h1,hc2',hlen,b1,wr (n:=(p:Int) + 1),d1]
    ·have ht:two (l.getD (lc n line i) 0)=true:=by unfold two; unfold cntM at c3; rw [c3]; rfl
     constructor
     ·rintro ((h | ⟨u,h1,h2,h3,h4,h5,h6⟩) | ⟨u,h1,h2⟩)
      ·exact .inl h
      ·exact .inr ⟨i + 1 + p,Nat.le_refl _,by omega,ce,ht,u,h2,h3,h4,h5,h6⟩
      ·exact .inr ⟨u,by omega,h2⟩
     ·rintro (h | ⟨u,h1,h2,h3,h4,z,h5,h6,h7,h8,h9⟩)
      ·exact .inl (.inl h)
      ·by_cases e:u=i + 1 + p
       ·subst e; exact .inl (.inr ⟨z,by omega,h5,h6,h7,h8,h9⟩)
       ·exact .inr ⟨u,by omega,h2,h3,h4,z,h5,h6,h7,h8,h9⟩
   ·obtain ⟨H',a'',d1,d2,d3,d4,d5⟩:=ih (p + 1) fuel H a P (by omega) (by omega) hp hc ho hs
    push_cast at d1
    refine ⟨H',a'',?_,d2,d3,d4,d5.congr fun x w hx=>?_⟩
    ·have hc2':((cntM (l.getD (lc n line i) 0):Nat):Int) ≠ 2:=by omega
     simp (disch:=omega) only [impl_NarrowPairs.l5,impl_NarrowPairs.j6,impl_NarrowPairs.j9,impl_NarrowPairs.j10,impl_NarrowPairs.j11,dt,nf,nt hc2',Za,Zt,Zf,Zn,Zo,AV.toI,if_true,hrp,rdn hrm,h1,wr (n:=(p:Int) + 1),d1]
    ·have ht:¬ two (l.getD (lc n line i) 0)=true:=by unfold two; rw [beq_iff_eq]; exact c3
     constructor
     ·rintro (h | ⟨u,h1,h2⟩)
      ·exact .inl h
      ·exact .inr ⟨u,by omega,h2⟩
     ·rintro (h | ⟨u,h1,h2,h3,h4,h5⟩)
      ·exact .inl h
      ·exact absurd h4 ht
  ·obtain ⟨H',a'',d1,d2,d3,d4,d5⟩:=ih (p + 1) fuel H a P (by omega) (by omega) hp hc ho hs
   push_cast at d1
   refine ⟨H',a'',?_,d2,d3,d4,d5.congr fun x w hx=>?_⟩
   ·simp (disch:=omega) only [impl_NarrowPairs.l5,impl_NarrowPairs.j6,impl_NarrowPairs.j8,impl_NarrowPairs.j10,impl_NarrowPairs.j11,dt,nt ce,Za,Zt,Zf,Zn,Zo,hrp,rdn hrm,wr (n:=(p:Int) + 1),d1]
   ·constructor
    ·rintro (h | ⟨u,h1,h2⟩)
     ·exact .inl h
     ·exact .inr ⟨u,by omega,h2⟩
    ·rintro (h | ⟨u,h1,h2,h3,h4⟩)
     ·exact .inl h
     ·refine .inr ⟨u,?_,h2,h3,h4⟩
      by_cases e:u=i + 1 + p
      ·subst e; exact absurd h3 ce
      ·omega
theorem iPairs_l1 {k:Nat} (hk:2000000 ≤ k) (L0:Sl→Int→Sl→Int→Int→Hp→An) {H0 Hb:Hp} {ms t cs:Sl} {l:List Int} {n x21 x22:Int} {line:Nat} (hmk:masksOk n l=true) (hm:Reads .i64 H0 ms l) (hline:(line:Int) < 2 * n) (htb:t.blk < Hb.length) :
  ∀ (j i fuel:Nat) (H:Hp) (a:List Int) (P:Nat→Nat→Prop),(i:Int) + j=n→j < fuel→H0 <+: H→Own 1 Hb H cs ((lineCells n line).map (.int .i64))→Own 1 H0 H t (a.map (.int .i64))→Sub l a P →
   ∃ H' a',impl_NarrowPairs.l1 (callF Ab.PP orc k) k L0 fuel ms n t cs x21 x22 cs n i H=L0 ms n t x21 (IntKind.i64.wrap (x22 + 1)) H'∧H0 <+: H'∧Own 1 H0 H' t (a'.map (.int .i64))∧Sub l a' (fun x w=>P x w ∨ ∃ z u:Nat,i ≤ z∧z < u∧(u:Int) < n∧PQ2 n l line z u x w):=by
 obtain ⟨l4,l16,lN,hN,n2,n4⟩:=masks_len hmk
 have hll:=line_len hmk hline
 have hn:2 ≤ n∧n ≤ 4:=(masksOk_iff.1 hmk).1
 intro j
 induction j with
 | zero=>
  intro i fuel H a P hq hf hp hc ho hs
  obtain ⟨fuel,rfl⟩:=Zs fuel (by omega)
  refine ⟨H,a,?_,hp,ho,hs.congr fun x w hx=>⟨.inl,by rintro (h | ⟨z,u,h1,h2,h3,_⟩); exact h; omega⟩⟩
  simp (disch:=omega) only [impl_NarrowPairs.l1,impl_NarrowPairs.j4,df,Zf]
 | succ j ih=>
  intro i fuel H a P hq hf hp hc ho hs
  obtain ⟨fuel,rfl⟩:=Zs fuel (by omega)
  have hi:(i:Int) < n:=by omega
  have hcl:=(own_reads hc).len
  have ci:=lc_lt hn hline hi
  have hrq:=rdn (own_reads hc) (i:=i) (by omega)
  rw [← ci.2] at hrq
  obtain ⟨H1,a',b1,b2,b3,b4,b5⟩:=iPairs_l5 hk L0 (impl_NarrowPairs.l1 (callF Ab.PP orc k) k L0 fuel) (x21:=x21) (x22:=x22) (x28:=cs) (x29:=n) (x30:=(i:Int)) hmk hm hline htb hi (n.toNat - (i + 1)) 0 k H a P (by omega) (by omega) hp hc ho hs
  obtain ⟨H',a'',d1,d2,d3,d4⟩:=ih (i + 1) fuel H1 a' _ (by omega) (by omega) b2 b4 b3 b5
  push_cast at d1
  refine ⟨H',a'',?_,d2,d3,d4.congr fun x w hx=>?_⟩
  ·have hlen:(cs.len:Int)=n:=by omega
   have w1:IntKind.i64.wrap ((i:Int) + 1)=(i:Int) + 1:=wr (by omega) (by omega)
   have esl:(Sl.mk cs.nil cs.blk (cs.off + ((i:Int) + 1).toNat * 1) (n - ((i:Int) + 1)).toNat)=Sl.mk cs.nil cs.blk (cs.off + (i + 1)) (n.toNat - (i + 1)):=by
    congr 1 <;> omega
   have hq:((0:Int) ≤ (i:Int) + 1∧(i:Int) + 1 ≤ n∧n ≤ n∧True)∧0 < 1∧True:=⟨⟨by omega,by omega,by omega,trivial⟩,by omega,trivial⟩
   simp only [Int.natCast_zero] at b1
   simp (disch:=omega) only [impl_NarrowPairs.l1,impl_NarrowPairs.j3,dt,Za,Zt,Zn,Zo,hrq,hlen,w1,esl,ip hq]
   rw [show (n - ((i:Int) + 1)).toNat=n.toNat - (i + 1) by omega,b1,w1,d1]
  ·constructor
   ·rintro ((h | ⟨u,h1,h2,h3⟩) | ⟨z,u,h1,h2⟩)
    ·exact .inl h
    ·exact .inr ⟨i,u,Nat.le_refl _,by omega,h2,h3⟩
    ·exact .inr ⟨z,u,by omega,h2⟩
   ·rintro (h | ⟨z,u,h1,h2,h3,h4⟩)
    ·exact .inl (.inl h)
    ·by_cases e:z=i
     ·subst e; exact .inl (.inr ⟨u,by omega,h3,h4⟩)
     ·exact .inr ⟨z,u,by omega,h2,h3,h4⟩
theorem iPairs_l0 {k:Nat} (hk:2000000 ≤ k) {H0:Hp} {ms t:Sl} {l:List Int} {n:Int} (hmk:masksOk n l=true) (hm:Reads .i64 H0 ms l) :
  ∀ (j line fuel:Nat) (H:Hp) (a:List Int) (P:Nat→Nat→Prop),(line:Int) + j=2 * n→j < fuel→H0 <+: H→Own 1 H0 H t (a.map (.int .i64))→Sub l a P →
   ∃ H' a',impl_NarrowPairs.l0 (callF Ab.PP orc k) k fuel ms n t (2 * n) line H=some (.sl 1 t,H')∧H0 <+: H'∧Own 1 H0 H' t (a'.map (.int .i64))∧Sub l a' (fun x w=>P x w ∨ ∃ ln z u:Nat,line ≤ ln∧(ln:Int) < 2 * n∧z < u∧(u:Int) < n∧PQ2 n l ln z u x w):=by
 obtain ⟨l4,l16,lN,hN,n2,n4⟩:=masks_len hmk
 have hn:2 ≤ n∧n ≤ 4:=(masksOk_iff.1 hmk).1
 intro j
 induction j with
 | zero=>
  intro line fuel H a P hl hf hp ho hs
  obtain ⟨fuel,rfl⟩:=Zs fuel (by omega)
  refine ⟨H,a,?_,hp,ho,hs.congr fun x w hx=>⟨.inl,by rintro (h | ⟨ln,z,u,h1,h2,_⟩); exact h; omega⟩⟩
  simp (disch:=omega) only [impl_NarrowPairs.l0,impl_NarrowPairs.j2,df,Zf]
 | succ j ih=>
  intro line fuel H a P hl hf hp ho hs
  obtain ⟨fuel,rfl⟩:=Zs fuel (by omega)
  have hline:(line:Int) < 2 * n:=by omega
  obtain ⟨cs,H1,a1,a2,a3⟩:=implLineCells_own hk hn (line:=(line:Int)) ⟨by omega,hline⟩ H
  have hcl:=(own_reads a3).len
  have hll:=line_len hmk hline
  obtain ⟨H2,a',b1,b2,b3,b4⟩:=iPairs_l1 hk (impl_NarrowPairs.l0 (callF Ab.PP orc k) k fuel) (x21:=2 * n) (x22:=(line:Int)) hmk hm hline (own_lt' ho) n.toNat 0 k H1 a P (by omega) (by omega) (hp.trans a2) a3 (own_pf ho a2) hs
  obtain ⟨H',a'',d1,d2,d3,d4⟩:=ih (line + 1) fuel H2 a' _ (by omega) (by omega) b2 b3 b4
  push_cast at d1
  refine ⟨H',a'',?_,d2,d3,d4.congr fun x w hx=>?_⟩
  ·simp only [Int.natCast_zero] at b1
   have hlen:(cs.len:Int)=n:=by omega
   simp (disch:=omega) only [impl_NarrowPairs.l0,dt,Zt,Zo,AV.toS,if_true,a1,hlen,b1,wr (n:=(line:Int) + 1),d1]
  ·constructor
   ·rintro ((h | ⟨z,u,h1,h2,h3,h4⟩) | ⟨ln,z,u,h1,h2⟩)
    ·exact .inl h
    ·exact .inr ⟨line,z,u,Nat.le_refl _,by omega,h2,h3,h4⟩
    ·exact .inr ⟨ln,z,u,by omega,h2⟩
   ·rintro (h | ⟨ln,z,u,h1,h2,h3,h4,h5⟩)
    ·exact .inl (.inl h)
    ·by_cases e:ln=line
     ·subst e; exact .inl (.inr ⟨z,u,by omega,h3,h4,h5⟩)
     ·exact .inr ⟨ln,z,u,by omega,h2,h3,h4,h5⟩
theorem implNarrowPairs_ok {k:Nat} (hk:2000010 ≤ k) {H:Hp} {ms:Sl} {l:List Int} {n:Int} (hb:-1 ≤ n∧n ≤ 5) (hm:Reads .i64 H ms l) (hnn:ms.nil=false) (hl:l.length ≤ 1000) (hr:∀ m ∈ l,-2 ≤ m∧m ≤ 63) :
  ∃ t H',callF Ab.PP orc k impl_NarrowPairs.id [.sl 1 ms,.int .i64 n] H=some (.sl 1 t,H')∧H <+: H'∧NilOr H H' t (pairsV n l):=by
 obtain ⟨k,rfl⟩:=Zs k (by omega)
 rw [impl_NarrowPairs.call]
 have h1:=implMasksValid_ok (show 2000000 ≤ k by omega) hb hm hl hr
 have hml:=hm.len
 unfold pairsV
 cases hv:masksOk n l with
 | false=>
  rw [hv] at h1
  rw [iN (by simp)]
  exact ⟨Sl.none,H,by simp only [impl_NarrowPairs.f,dt,df,bt,bf,nt,nf,Za,Zy,Zx,Zt,Zf,Zn,Zz,Zi,Zo,wr,AV.toB,AV.toI,AV.toS,if_true,h1],(List.prefix_refl _),.inl ⟨rfl,rfl⟩⟩
 | true=>
  rw [hv] at h1
  rw [ip rfl]
  obtain ⟨l4,l16,lN,hN,n2,n4⟩:=masks_len hv
  have hM:=masks_M hv
  have h2:=Clone_own (show 1 ≤ k by omega) hm hnn hl
  have hnew:=own_new 1 H (l.map (.int .i64)) l.length (by simp)
  obtain ⟨H',a',b1,b2,b3,b4⟩:=iPairs_l0 (show 2000000 ≤ k by omega) hv hm (2 * n).toNat 0 k (H ++ [some (Blk.mk false (l.map (.int .i64)))]) l _ (by omega) (by omega) (List.prefix_append _ _) hnew (Sub.refl hM)
  have e:a'=subAll l (PQ n l):=(b4.congr fun x w hx=>(show _ ↔ PQ n l x w from by
   rw [PQ_iff]
   constructor
   ·rintro (h | ⟨ln,z,u,_,h1,h2,h3,h4⟩)
    ·exact h.elim
    ·exact ⟨ln,u,z,h1,h3,h2,PQ2_symm h4⟩
   ·rintro ⟨ln,i,u,h1,h2,h3,h4⟩
    exact .inr ⟨ln,u,i,by omega,h1,h3,h2,PQ2_symm h4⟩)).eq hM
  subst e
  refine ⟨_,H',?_,b2,.inr b3⟩
  simp only [Int.natCast_zero] at b1
  simp (disch:=omega) only [impl_NarrowPairs.f,dt,df,Zy,Zf,AV.toB,AV.toS,if_true,Zo,h1,h2,wr (n:=2 * n),b1]
theorem Rules_l3 (rec:Rec) (k:Nat) (L2:Sl→Int→Int→Sl→Sl→Hp→An) {H0 Hb:Hp} {n kind value:Int} {gs s cs us t:Sl} {cells fl:List Int} {i m:Nat} (hc:Reads .i64 H0 cs cells) (hcl:cells.length ≤ 1000) (hfl:fl.length=cells.length) (hin:∀ c ∈ cells,0 ≤ c∧c < (m:Int)) (hm:m ≤ 1000) (htb:t.blk < Hb.length) :
  ∀ (j q fuel:Nat) (H:Hp) (a:List Int),q + j=cells.length→j < fuel→H0 <+: H→Own 1 Hb H us (fl.map (.int .i64))→Own 1 H0 H t (a.map (.int .i64))→a.length=m →
   ∃ H',spec_NarrowRules.l3 rec k L2 fuel t i us q n gs s kind cs value H=L2 t (IntKind.i64.wrap ((i:Int) + 1)) n gs s H'∧H0 <+: H'∧Own 1 H0 H' t ((setAll cells a fl q j).map (.int .i64))∧Adv t.blk H H':=by
 have hcs:=hc.len
 intro j
 induction j with
 | zero=>
  intro q fuel H a hq hf hp hu ho ha
  obtain ⟨fuel,rfl⟩:=Zs fuel (by omega)
  refine ⟨H,?_,hp,ho,Adv.refl _ _⟩
  simp (disch:=omega) only [spec_NarrowRules.l3,spec_NarrowRules.j5,dt,df,Zt,Zf]
 | succ j ih=>
  intro q fuel H a hq hf hp hu ho ha
  obtain ⟨fuel,rfl⟩:=Zs fuel (by omega)
  have hq2:q < cells.length:=by omega
  obtain ⟨c0,c1⟩:=hin _ (mem_getD hq2)
  have hus:=(own_reads hu).len
  have htl:=(own_reads ho).len
  have hrc:=pf_reads hp hc
  obtain ⟨H1,a1,a2,a3,a4⟩:=own_set1 ho hp (cells.getD q 0).toNat (by omega) (fl.getD q 0)
  obtain ⟨H',b1,b2,b3,b4⟩:=ih (q + 1) fuel H1 _ (by omega) (by omega) a2 (a4.own htb hu) a3 (by simpa using ha)
  push_cast at b1
  refine ⟨H',?_,b2,b3,a4.trans b4⟩
  simp (disch:=omega) only [spec_NarrowRules.l3,dt,Za,Zt,Zn,Zo,rdn hrc,rdn (own_reads hu),a1,wr (n:=(q:Int) + 1),b1]
theorem val_drop (rs:List R) (i:Nat) (h:i < rs.length):(rs.drop i).map R.val=rs[i].val :: (rs.drop (i + 1)).map R.val:=by
 rw [List.drop_eq_getElem_cons h]; rfl
theorem Rules_l2 {k:Nat} (hk:2000040 ≤ k) {H0:Hp} {n:Int} {gs s t:Sl} {given:List Int} {rs:List R} (hz:PuzAt H0 n gs s given rs) (hro:∀ r ∈ rs,R.ok n r=true) :
  ∀ (j i fuel:Nat) (H:Hp) (a:List Int),i + j=rs.length→j < fuel→H0 <+: H→Own 1 H0 H t (a.map (.int .i64))→masksOk n a=true →
   ∃ H',spec_NarrowRules.l2 (callF PP orc k) k fuel t i n gs s H=some (.sl 1 t,H')∧H0 <+: H'∧Own 1 H0 H' t ((((rs.drop i).map R.val).foldl (ruleStep n) a).map (.int .i64)):=by
 have hrl:=hz.rr.len
 have hrl2:=hz.rl
 have hn:=hz.n4
 intro j
 induction j with
 | zero=>
  intro i fuel H a hi hf hp ho ha
  obtain ⟨fuel,rfl⟩:=Zs fuel (by omega)
  rw [List.drop_eq_nil_of_le (by omega)]
  refine ⟨H,?_,hp,ho⟩
  simp (disch:=omega) only [spec_NarrowRules.l2,spec_NarrowRules.j4,dt,df,Zt,Zf]
 | succ j ih=>
  intro i fuel H a hi hf hp ho ha
  obtain ⟨fuel,rfl⟩:=Zs fuel (by omega)
  have hi2:i < rs.length:=by omega
  obtain ⟨l0,l1,l2⟩:=rules_at1 (pf_readsR hp hz.rr) i hi2
  have hrc:=hz.rc _ (List.getElem_mem hi2)
  have hrk:=hro _ (List.getElem_mem hi2)
  have hok:ruleOkV n rs[i].val=true:=hrk
  obtain ⟨c1,c2,c3,c4⟩:=ruleOk_cells hok
  obtain ⟨ml4,ml16,_⟩:=masks_len ha
  have hm2:=(masksOk_iff.1 ha).2.2
  obtain ⟨u,H1,a1,a2,a3⟩:=specRuleMasks_ok (show 2000030 ≤ k by omega) (n:=n) (kind:=rs[i].kind) (value:=rs[i].value) (by omega) (pf_reads hp (hz.rr.cs i hi2)) (own_reads ho) (by omega) (by omega)
  have hfl:(ruleMasksS n rs[i].kind rs[i].value rs[i].cells a).length=rs[i].cells.length:=by
   have e:ruleMasksS n rs[i].kind rs[i].value rs[i].cells a=ruleMasksV rs[i].kind rs[i].value (ownOf a rs[i].cells):=ruleMasks_S hok ha
   have h4:rs[i].cells.length ≤ 4:=c2
   rw [e,(ruleMasks_ok (by rw [own_len]; exact h4)).2,own_len]
  obtain ⟨H2,b1,b2,b3,b4⟩:=Rules_l3 (callF PP orc k) k (spec_NarrowRules.l2 (callF PP orc k) k fuel) (n:=n) (kind:=rs[i].kind) (value:=rs[i].value) (gs:=gs) (s:=s) (i:=i) (m:=a.length) (hz.rr.cs i hi2) hrc hfl (fun c hc=>by have:=c1 c hc; omega) (by omega) (own_lt' ho) rs[i].cells.length 0 k H1 a (by omega) (by omega) (hp.trans a2) a3 (own_pf ho a2) rfl
  have hst:masksOk n (ruleStep n a rs[i].val)=true:=(ruleStep_sub hok ha).ok ha
  obtain ⟨H',d1,d2,d3⟩:=ih (i + 1) fuel H2 (ruleStep n a rs[i].val) (by omega) (by omega) b2 b3 hst
  push_cast at d1
  rw [val_drop rs i hi2,List.foldl_cons]
  refine ⟨H',?_,d2,d3⟩
  simp only [Int.natCast_zero] at b1
  simp (disch:=omega) only [spec_NarrowRules.l2,dt,Za,Zt,Zn,Zo,l0,l1,l2,a1,AV.toS,if_true,b1,wr (n:=(i:Int) + 1),d1]
theorem specNarrowRules_ok {k:Nat} (hk:2000050 ≤ k) {H:Hp} {n:Int} {gs s ms:Sl} {given l:List Int} {rs:List R} (hz:PuzAt H n gs s given rs) (hm:Reads .i64 H ms l) (hl:l.length ≤ 1000) :
  ∃ t H',callF PP orc k spec_NarrowRules.id [.agg [.int .i64 n,.sl 1 gs,.sl 3 s],.sl 1 ms] H=some (.sl 1 t,H')∧H <+: H'∧Own 1 H H' t ((rulesV n given (rs.map R.val) l).map (.int .i64)):=by
 obtain ⟨k,rfl⟩:=Zs k (by omega)
 rw [spec_NarrowRules.call]
 have hn:=hz.n4
 have h1:=specPuzzleValid_ok (show 2000003 ≤ k by omega) hz.n4 hz.rg hz.gl hz.rr hz.rl hz.rc
 rw [puzzle_map] at h1
 have h2:=specMasksValid_any (show 2000000 ≤ k by omega) (n:=n) (by omega) hm hl
 unfold rulesV
 cases e1:puzzleV n given (rs.map R.val) with
 | false=>
  rw [e1] at h1
  rw [iN (by simp)]
  exact ⟨Sl.mk false H.length 0 0,H ++ [some (Blk.mk false [])],by simp only [spec_NarrowRules.f,spec_NarrowRules.j0,dt,df,bt,bf,nt,nf,Za,Zy,Zx,Zt,Zf,Zn,Zz,Zi,Zo,wr,AV.toB,AV.toI,AV.toS,if_true,h1],(List.prefix_append _ _),own_new 1 H [] 0 rfl⟩
 | true=>
  rw [e1] at h1
  cases e2:masksOk n l with
  | false=>
   rw [e2] at h2
   rw [iN (by simp)]
   exact ⟨Sl.mk false H.length 0 0,H ++ [some (Blk.mk false [])],by simp only [spec_NarrowRules.f,spec_NarrowRules.j0,dt,df,bt,bf,nt,nf,Za,Zy,Zx,Zt,Zf,Zn,Zz,Zi,Zo,wr,AV.toB,AV.toI,AV.toS,if_true,h1,h2],(List.prefix_append _ _),own_new 1 H [] 0 rfl⟩
  | true=>
   rw [e2] at h2
   rw [ip ⟨rfl,rfl⟩]
   have h3:=l6Copy_ok (show 1 ≤ k by omega) hm hl
   have hnew:=own_new 1 H (l.map (.int .i64)) l.length (by simp)
   obtain ⟨_,_,q3⟩:=puzzleV_iff e1
   have hrl:=hz.rl
   obtain ⟨H',b1,b2,b3⟩:=Rules_l2 (show 2000040 ≤ k by omega) hz q3 rs.length 0 k (H ++ [some (Blk.mk false (l.map (.int .i64)))]) l (by omega) (by omega) (List.prefix_append _ _) hnew e2
   rw [List.drop_zero] at b3
   refine ⟨_,H',?_,b2,b3⟩
   simp only [Int.natCast_zero] at b1
   simp only [spec_NarrowRules.f,spec_NarrowRules.j0,spec_NarrowRules.j1,dt,df,bt,bf,nt,nf,Za,Zy,Zx,Zt,Zf,Zn,Zz,Zi,Zo,wr,AV.toB,AV.toI,AV.toS,if_true,h1,h2,h3,b1]
theorem l8Same_l0 (rec:Rec) (k:Nat) {H:Hp} {s t:Sl} {x y:List Int} (hs:Reads .i64 H s x) (ht:Reads .i64 H t y) (hl:x.length=y.length) (h1:x.length ≤ 1000) :
  ∀ (j i fuel:Nat),i + j=x.length→j < fuel→spec_l8Same.l0 rec k fuel s t i H=some (.bool (decide (x.drop i=y.drop i)),H):=by
 have hsl:=hs.len
 have htl:=ht.len
 intro j
 induction j with
 | zero=>
  intro i fuel hi hf
  obtain ⟨fuel,rfl⟩:=Zs fuel (by omega)
  rw [List.drop_eq_nil_of_le (show x.length ≤ i by omega),List.drop_eq_nil_of_le (show y.length ≤ i by omega)]
  simp (disch:=omega) only [spec_l8Same.l0,dt,df,bt,bf,nt,nf,Za,Zy,Zx,Zt,Zf,Zn,Zz,Zi,Zo,wr,AV.toB,AV.toI,AV.toS,if_true]
  rfl
 | succ j ih=>
  intro i fuel hi hf
  obtain ⟨fuel,rfl⟩:=Zs fuel (by omega)
  have hx:i < x.length:=by omega
  have hy:i < y.length:=by omega
  have ex:x.drop i=x.getD i 0 :: x.drop (i + 1):=by
   rw [List.drop_eq_getElem_cons hx,List.getD_eq_getElem?_getD,List.getElem?_eq_getElem hx]; rfl
  have ey:y.drop i=y.getD i 0 :: y.drop (i + 1):=by
   rw [List.drop_eq_getElem_cons hy,List.getD_eq_getElem?_getD,List.getElem?_eq_getElem hy]; rfl
  rw [ex,ey]
  by_cases c:x.getD i 0=y.getD i 0
  ·have d1:=ih (i + 1) fuel (by omega) (by omega)
   push_cast at d1
   rw [show decide (x.getD i 0 :: x.drop (i + 1)=y.getD i 0 :: y.drop (i + 1))=decide (x.drop (i + 1)=y.drop (i + 1)) by rw [c]; simp,← d1]
   simp (disch:=omega) only [spec_l8Same.l0,dt,df,bt,bf,nt,nf,Za,Zy,Zx,Zt,Zf,Zn,Zz,Zi,Zo,wr,AV.toB,AV.toI,AV.toS,if_true,rdn hs,rdn ht,nf]
  ·rw [show decide (x.getD i 0 :: x.drop (i + 1)=y.getD i 0 :: y.drop (i + 1))=false from decide_eq_false fun h=>c (List.cons.inj h).1]
   simp (disch:=omega) only [spec_l8Same.l0,dt,df,bt,bf,nt,nf,Za,Zy,Zx,Zt,Zf,Zn,Zz,Zi,Zo,wr,AV.toB,AV.toI,AV.toS,if_true,rdn hs,rdn ht,nt]
theorem l8Same_ok {k:Nat} (hk:2000000 ≤ k) {H:Hp} {s t:Sl} {x y:List Int} (hs:Reads .i64 H s x) (ht:Reads .i64 H t y) (h1:x.length ≤ 1000) (h2:y.length ≤ 1000) :
  callF PP orc k spec_l8Same.id [.sl 1 s,.sl 1 t] H=some (.bool (decide (x=y)),H):=by
 obtain ⟨k,rfl⟩:=Zs k (by omega)
 rw [spec_l8Same.call]
 have hsl:=hs.len
 have htl:=ht.len
 by_cases c:x.length=y.length
 ·have d1:=l8Same_l0 (callF PP orc k) k hs ht c h1 x.length 0 k (by omega) (by omega)
  simp only [Int.natCast_zero,List.drop_zero] at d1
  rw [← d1]
  simp (disch:=omega) only [spec_l8Same.f,dt,df,bt,bf,nt,nf,Za,Zy,Zx,Zt,Zf,Zn,Zz,Zi,Zo,wr,AV.toB,AV.toI,AV.toS,if_true]
 ·rw [decide_eq_false (fun h=>c (congrArg List.length h))]
  simp (disch:=omega) only [spec_l8Same.f,dt,df,bt,bf,nt,nf,Za,Zy,Zx,Zt,Zf,Zn,Zz,Zi,Zo,wr,AV.toB,AV.toI,AV.toS,if_true]
theorem specNarrowBy_ok {k:Nat} (hk:2000060 ≤ k) {H:Hp} {n:Int} {gs s ms:Sl} {given l:List Int} {rs:List R} (hz:PuzAt H n gs s given rs) (hm:Reads .i64 H ms l) (hl:l.length ≤ 1000) (t:Int) :
  ∃ u H',callF PP orc k spec_NarrowBy.id [.agg [.int .i64 n,.sl 1 gs,.sl 3 s],.sl 1 ms,.int .i64 t] H=some (.sl 1 u,H')∧H <+: H'∧Own 1 H H' u ((narrowV n given (rs.map R.val) l t).map (.int .i64)):=by
 obtain ⟨k,rfl⟩:=Zs k (by omega)
 rw [spec_NarrowBy.call]
 have hn:=hz.n4
 have h1:=specPuzzleValid_ok (show 2000003 ≤ k by omega) hz.n4 hz.rg hz.gl hz.rr hz.rl hz.rc
 rw [puzzle_map] at h1
 have h2:=specMasksValid_any (show 2000000 ≤ k by omega) (n:=n) (by omega) hm hl
 unfold narrowV
 cases e1:puzzleV n given (rs.map R.val) with
 | false=>
  rw [e1] at h1
  rw [iN (by simp)]
  exact ⟨Sl.mk false H.length 0 0,H ++ [some (Blk.mk false [])],by simp only [spec_NarrowBy.f,spec_NarrowBy.j0,dt,df,bt,bf,nt,nf,Za,Zy,Zx,Zt,Zf,Zn,Zz,Zi,Zo,wr,AV.toB,AV.toI,AV.toS,if_true,h1],(List.prefix_append _ _),own_new 1 H [] 0 rfl⟩
 | true=>
  rw [e1] at h1
  cases e2:masksOk n l with
  | false=>
   rw [e2] at h2
   rw [iN (by simp)]
   exact ⟨Sl.mk false H.length 0 0,H ++ [some (Blk.mk false [])],by simp only [spec_NarrowBy.f,spec_NarrowBy.j0,dt,df,bt,bf,nt,nf,Za,Zy,Zx,Zt,Zf,Zn,Zz,Zi,Zo,wr,AV.toB,AV.toI,AV.toS,if_true,h1,h2],(List.prefix_append _ _),own_new 1 H [] 0 rfl⟩
  | true=>
   rw [e2] at h2
   rw [ip ⟨rfl,rfl⟩]
   by_cases t1:t=1
   ·obtain ⟨u,H',a1,a2,a3⟩:=specNarrowSingles_ok (show 2000010 ≤ k by omega) (n:=n) (by omega) hm hl
    rw [ip t1]
    exact ⟨u,H',by simp only [spec_NarrowBy.f,spec_NarrowBy.j0,spec_NarrowBy.j1,dt,df,bt,bf,nt,nf,Za,Zy,Zx,Zt,Zf,Zn,Zz,Zi,Zo,wr,AV.toB,AV.toI,AV.toS,if_true,h1,h2,bt t1,a1],a2,a3⟩
   rw [iN t1]
   by_cases t2:t=2
   ·obtain ⟨u,H',a1,a2,a3⟩:=specNarrowHidden_ok (show 2000010 ≤ k by omega) (n:=n) (by omega) hm hl
    rw [ip t2]
    exact ⟨u,H',by simp only [spec_NarrowBy.f,spec_NarrowBy.j0,spec_NarrowBy.j1,dt,df,bt,bf,nt,nf,Za,Zy,Zx,Zt,Zf,Zn,Zz,Zi,Zo,wr,AV.toB,AV.toI,AV.toS,if_true,h1,h2,bf t1,bt t2,a1],a2,a3⟩
   rw [iN t2]
   by_cases t3:t=3
   ·obtain ⟨u,H',a1,a2,a3⟩:=specNarrowPairs_ok (show 2000010 ≤ k by omega) (n:=n) (by omega) hm hl
    rw [ip t3]
    exact ⟨u,H',by simp only [spec_NarrowBy.f,spec_NarrowBy.j0,spec_NarrowBy.j1,dt,df,bt,bf,nt,nf,Za,Zy,Zx,Zt,Zf,Zn,Zz,Zi,Zo,wr,AV.toB,AV.toI,AV.toS,if_true,h1,h2,bf t1,bf t2,bt t3,a1],a2,a3⟩
   rw [iN t3]
   by_cases t4:t=4
   ·obtain ⟨u,H',a1,a2,a3⟩:=specNarrowRules_ok (show 2000050 ≤ k by omega) hz hm hl
    rw [ip t4]
    exact ⟨u,H',by simp only [spec_NarrowBy.f,spec_NarrowBy.j0,spec_NarrowBy.j1,dt,df,bt,bf,nt,nf,Za,Zy,Zx,Zt,Zf,Zn,Zz,Zi,Zo,wr,AV.toB,AV.toI,AV.toS,if_true,h1,h2,bf t1,bf t2,bf t3,bt t4,a1],a2,a3⟩
   rw [iN t4]
   exact ⟨Sl.mk false H.length 0 0,H ++ [some (Blk.mk false [])],by simp only [spec_NarrowBy.f,spec_NarrowBy.j0,spec_NarrowBy.j1,dt,df,bt,bf,nt,nf,Za,Zy,Zx,Zt,Zf,Zn,Zz,Zi,Zo,wr,AV.toB,AV.toI,AV.toS,if_true,h1,h2,bf t1,bf t2,bf t3,bf t4],(List.prefix_append _ _),own_new 1 H [] 0 rfl⟩

theorem get_new (L:Hp) (x:Option Blk):(L ++ [x])[L.length]?=some x:=by simp
theorem implruleMasks_ok {k:Nat} (hk:2000030 ≤ k) {kind value:Int} {cs ws:Sl} {H:Hp} {own:List Int} (hw:Reads .i64 H ws own) (hol:own.length ≤ 4) (hom:∀ m ∈ own,(0 ≤ m∧m ≤ 30)∧m.tmod 2=0) (hk2:KindLen kind own.length) :
  ∃ t H',callF PP orc k impl_ruleMasks.id [.agg [.int .i64 kind,.sl 1 cs,.int .i64 value],.sl 1 ws] H=some (.sl 1 t,H')∧H <+: H'∧Own 1 H H' t ((ruleMasksV kind value own).map (.int .i64)):=by
 obtain ⟨k,rfl⟩:=Zs k (by omega)
 rw [impl_ruleMasks.call]
 have hwl:=hw.len
 obtain ⟨Ha,hHa⟩:∃ X,H ++ [some (Blk.mk false [.int .i64 kind,.sl 1 cs,.int .i64 value])]=X:=⟨_,rfl⟩
 obtain ⟨Hb,hHb⟩:∃ X,Ha ++ [some (Blk.mk false [.sl 1 ws])]=X:=⟨_,rfl⟩
 obtain ⟨Hc,hHc⟩:∃ X,Hb ++ [some (Blk.mk false ((List.replicate own.length (0:Int)).map (.int .i64)))]=X:=⟨_,rfl⟩
 obtain ⟨Hd,hHd⟩:∃ X,Hc ++ [some (Blk.mk false [.sl 1 Sl.none])]=X:=⟨_,rfl⟩
 have la:Ha.length=H.length + 1:=by rw [← hHa]; simp
 have lb:Hb.length=H.length + 2:=by rw [← hHb]; simp [la]
 have lc:Hc.length=H.length + 3:=by rw [← hHc]; simp [lb]
 have ld:Hd.length=H.length + 4:=by rw [← hHd]; simp [lc]
 have pa:H <+: Ha:=by rw [← hHa]; exact (List.prefix_append _ _)
 have pb:Ha <+: Hb:=by rw [← hHb]; exact (List.prefix_append _ _)
 have pc:Hb <+: Hc:=by rw [← hHc]; exact (List.prefix_append _ _)
 have pd:Hc <+: Hd:=by rw [← hHd]; exact (List.prefix_append _ _)
 have ga:Ha[H.length]?=some (some (Blk.mk false [.int .i64 kind,.sl 1 cs,.int .i64 value])):=by rw [← hHa]; exact get_new _ _
 have gb:Hb[Ha.length]?=some (some (Blk.mk false [.sl 1 ws])):=by rw [← hHb]; exact get_new _ _
 have gc:Hc[Hb.length]?=some (some (Blk.mk false ((List.replicate own.length (0:Int)).map (.int .i64)))):=by rw [← hHc]; exact get_new _ _
 have gd:Hd[Hc.length]?=some (some (Blk.mk false [.sl 1 Sl.none])):=by rw [← hHd]; exact get_new _ _
 obtain ⟨H2,a1,a2,a3,a4⟩:=sto1' gd (.sl 1 (Sl.mk false Hb.length 0 own.length))
 obtain ⟨He,hHe⟩:∃ X,H2 ++ [some (Blk.mk false ((List.replicate own.length (0:Int)).map (.int .i64)))]=X:=⟨_,rfl⟩
 obtain ⟨Hf,hHf⟩:∃ X,He ++ [some (Blk.mk false [.sl 1 Sl.none])]=X:=⟨_,rfl⟩
 have le:He.length=H.length + 5:=by rw [← hHe]; simp; omega
 have lf:Hf.length=H.length + 6:=by rw [← hHf]; simp [le]
 have pe:H2 <+: He:=by rw [← hHe]; exact (List.prefix_append _ _)
 have pf:He <+: Hf:=by rw [← hHf]; exact (List.prefix_append _ _)
 have ge:He[H2.length]?=some (some (Blk.mk false ((List.replicate own.length (0:Int)).map (.int .i64)))):=by rw [← hHe]; exact get_new _ _
 have gf:Hf[He.length]?=some (some (Blk.mk false [.sl 1 Sl.none])):=by rw [← hHf]; exact get_new _ _
 obtain ⟨H4,b1,b2,b3,b4⟩:=sto1' gf (.sl 1 (Sl.mk false H2.length 0 own.length))
 obtain ⟨Hg,hHg⟩:∃ X,H4 ++ [some (Blk.mk false [.nilf])]=X:=⟨_,rfl⟩
 have lg:Hg.length=H.length + 7:=by rw [← hHg]; simp; omega
 have pg:H4 <+: Hg:=by rw [← hHg]; exact (List.prefix_append _ _)
 have gg:Hg[H4.length]?=some (some (Blk.mk false [.nilf])):=by rw [← hHg]; exact get_new _ _
 obtain ⟨H5,c1,c2,c3,c4⟩:=sto1' gg (.fn impl_ruleMasks_1.id [.ptr Ha.length 0,.ptr H.length 0,.ptr He.length 0,.ptr Hc.length 0,.ptr H4.length 0])
 -- what lies where in the end
 have up:∀ {d:Nat} {x:Blk},d ≠ Hc.length→Hd[d]?=some (some x)→H2[d]?=some (some x):=fun h h'=>a3 _ _ h h'
 have up4:∀ {d:Nat} {x:Blk},d ≠ He.length→H2[d]?=some (some x)→H4[d]?=some (some x):=fun h h'=>b3 _ _ h (pf_get (pe.trans pf) h')
 have up5:∀ {d:Nat} {x:Blk},d ≠ H4.length→H4[d]?=some (some x)→H5[d]?=some (some x):=fun h h'=>c3 _ _ h (pf_get pg h')
 have hr5:=up5 (by omega) (up4 (by omega) (up (by omega) (pf_get (pb.trans (pc.trans pd)) ga)))
 have hb2:=up (by omega) (pf_get (pc.trans pd) gb)
 have hb5:=up5 (by omega) (up4 (by omega) hb2)
 have hc5:=up5 (by omega) (up4 (by omega) (up (by omega) (pf_get pd gc)))
 have ho5:=up5 (by omega) (up4 (by omega) a2)
 have hv5:=up5 (by omega) (b3 _ _ (by omega) (pf_get pf ge))
 have hvb5:=up5 (by omega) b2
 have p5:H <+: H5:=by
  have q2:H <+: H2:=a3.pf (by omega) (pa.trans (pb.trans (pc.trans pd))) (by omega)
  have q4:H <+: H4:=b3.pf (by omega) (q2.trans (pe.trans pf)) (by omega)
  exact c3.pf (by omega) (q4.trans pg) (by omega)
 have ht:Try H5 Ha.length H.length He.length Hc.length H4.length kind value cs ws (Sl.mk false H2.length 0 own.length) (Sl.mk false Hb.length 0 own.length):=
  ⟨hb5,hr5,hvb5,ho5,c2,by simp only; omega⟩
 obtain ⟨H',rest',d1,d2,d3,d4,d5,d6⟩:=Try_ok (B:=H) (value:=value) hw hol hom hk2 (vs:=Sl.mk false H2.length 0 own.length) (os:=Sl.mk false Hb.length 0 own.length) (by simp only; omega) own.length k (by omega) H5 [] (List.replicate own.length 0) (List.replicate own.length 0) (by simp) (by simp) p5 ht
  ⟨rfl,rfl,by simp only; omega,by simpa using hv5,by simp⟩ ⟨by simp,fun v hv=>by cases hv⟩ (by simp) (Ms.zeros _) ⟨rfl,rfl,by simp only; omega,hc5,by simp⟩
 have ht':=ht.adv d4
 refine ⟨Sl.mk false Hb.length 0 own.length,H',?_,d3,by simpa [ruleMasksV] using d6⟩
 have l1:ldS 1 Hb Ha.length 0=some ws:=box_sl gb
 have l2:ldS 1 H2 Ha.length 0=some ws:=box_sl hb2
 have l3:ldF H5 H4.length 0=some (impl_ruleMasks_1.id,[.ptr Ha.length 0,.ptr H.length 0,.ptr He.length 0,.ptr Hc.length 0,.ptr H4.length 0]):=by unfold ldF Hp.cell; rw [c2]; simp [AV.toF]
 have l4:=box_sl ht'.o
 simp only [Zm,Int.natCast_zero] at d1
 simp only [impl_ruleMasks.f,hHa,hHb,l1,Zo]
 rw [ip (by omega)]
 simp only [hwl,Zn,flat0s,hHc,hHd,a1,Zo,l2]
 rw [ip (by omega)]
 simp only [hwl,Zn,flat0s,hHe,hHf,b1,Zo,hHg,c1,l3,okTry,List.cons_append,List.nil_append,List.all_cons,List.all_nil,AV.glob,AV.cell,Za,Zt,d1,l4]
theorem kindLen_of {n kind value:Int} {m:Nat} (h:kindOk n kind value m=true):KindLen kind m:=by
 unfold kindOk at h
 unfold KindLen
 split at h
 ·omega
 ·split at h
  ·omega
  ·split at h
   ·simp only [decide_eq_true_eq] at h; omega
   ·split at h
    ·simp only [decide_eq_true_eq] at h; omega
    ·cases h
theorem ownOf_even {n:Int} {masks cells:List Int} (hm:masksOk n masks=true) (hc:∀ c ∈ cells,0 ≤ c∧c < (masks.length:Int)):∀ m ∈ ownOf masks cells,(0 ≤ m∧m ≤ 30)∧m.tmod 2=0:=fun m h=>by
 obtain ⟨c,hc',rfl⟩:=List.mem_map.1 h
 obtain ⟨c0,c1⟩:=hc c hc'
 have:=(masksOk_iff.1 hm).2.1 _ (gv_mem c0 c1)
 unfold maskOk at this
 simp only [Bool.and_eq_true,decide_eq_true_eq,beq_iff_eq] at this
 have ht:=topMask_le n
 omega
theorem dm_of {n:Int} {l:List Int} (h:masksOk n l=true):l.length ≤ 16∧0 < l.length∧∀ m ∈ l,-2 ≤ m∧m ≤ 63:=by
 obtain ⟨h1,h2,h3⟩:=masksOk_iff.1 h
 have:=masks_len h
 refine ⟨by omega,by omega,fun m hm=>?_⟩
 have:=(maskOk_iff.1 (h2 m hm)).1
 have:=topMask_le n
 omega
theorem implRM_l2 {k:Nat} (hk:2000030 ≤ k) {n kind value:Int} {cs ms:Sl} {H0:Hp} {cells l:List Int} (hc:Reads .i64 H0 cs cells) (hm:Reads .i64 H0 ms l) (hr:ruleOk n kind cells value=true) (hl:masksOk n l=true) :
  ∀ (j i fuel:Nat) (H:Hp) (t:Sl),i + j=cells.length→j < fuel→H0 <+: H→Own 1 H0 H t ((ownOf l (cells.take i)).map (.int .i64)) →
   ∃ t' H',impl_RuleMasks.l2 (callF PP orc k) k fuel ms t cs cells.length i kind cs value H=some (.sl 1 t',H')∧H0 <+: H'∧Own 1 H0 H' t' ((ruleMasksV kind value (ownOf l cells)).map (.int .i64)):=by
 obtain ⟨c1,c2,c3,c4⟩:=ruleOk_cells hr
 have hcl:=hc.len
 have hml:=hm.len
 have hsz:=(masksOk_iff.1 hl).2.2
 have hk2:KindLen kind cells.length:=by
  have hr':=hr
  unfold ruleOk at hr'
  rw [Bool.and_eq_true] at hr'
  exact kindLen_of hr'.2
 intro j
 induction j with
 | zero=>
  intro i fuel H t hi hf hp ho
  obtain ⟨fuel,rfl⟩:=Zs fuel (by omega)
  rw [List.take_of_length_le (by omega)] at ho
  obtain ⟨t',H',a1,a2,a3⟩:=implruleMasks_ok hk (kind:=kind) (value:=value) (cs:=cs) (own_reads ho) (by rw [own_len]; omega) (ownOf_even hl fun c hcc=>by have:=c1 c hcc; omega) (by rw [own_len]; exact hk2)
  refine ⟨t',H',?_,hp.trans a2,own_base a3 hp⟩
  simp (disch:=omega) only [impl_RuleMasks.l2,impl_RuleMasks.j3,df,Zf,a1,Zo,AV.toS,if_true]
 | succ j ih=>
  intro i fuel H t hi hf hp ho
  obtain ⟨fuel,rfl⟩:=Zs fuel (by omega)
  have hi2:i < cells.length:=by omega
  have hcc:=c1 _ (mem_getD hi2)
  have htl:t.len=i:=by have:=ho.len; simp [ownOf] at this; omega
  have htk:ownOf l (cells.take (i + 1))=ownOf l (cells.take i) ++ [l.getD (cells.getD i 0).toNat 0]:=by
   rw [List.take_succ_eq_append_getElem hi2]; unfold ownOf
   rw [List.map_append,List.getD_eq_getElem?_getD (l:=cells),List.getElem?_eq_getElem hi2]; rfl
  obtain ⟨H1,a1,a2,a3,a4,a5⟩:=own_app1 ho hp (l.getD (cells.getD i 0).toNat 0) (by omega)
  rw [← htk] at a3
  obtain ⟨t',H',b1,b2,b3⟩:=ih (i + 1) fuel H1 _ (by omega) (by omega) a2 a3
  push_cast at b1
  refine ⟨t',H',?_,b2,b3⟩
  have hc0:(0:Int) ≤ cells.getD i 0:=hcc.1
  have hc3:cells.getD i 0 < (ms.len:Int):=by omega
  simp (disch:=omega) only [impl_RuleMasks.l2,dt,Za,Zt,Zn,Zo,rdn (pf_reads hp hc),rdn (pf_reads hp hm),a1,wr (n:=(i:Int) + 1),b1]
theorem implRuleMasks_ok {k:Nat} (hk:2000040 ≤ k) {n kind value:Int} (hn:2 ≤ n∧n ≤ 4) {cs ms:Sl} {H:Hp} {cells l:List Int} (hc:Reads .i64 H cs cells) (hm:Reads .i64 H ms l) (hcl:cells.length ≤ 1000) (hml:l.length ≤ 1000) (hr:∀ m ∈ l,-2 ≤ m∧m ≤ 63) :
  ∃ t H',callF PP orc k impl_RuleMasks.id [.agg [.int .i64 kind,.sl 1 cs,.int .i64 value],.sl 1 ms,.int .i64 n] H=some (.sl 1 t,H')∧H <+: H'∧NilOr H H' t (ruleMasksS n kind value cells l):=by
 obtain ⟨k,rfl⟩:=Zs k (by omega)
 rw [impl_RuleMasks.call]
 have h1:=implRuleValid_ok (show 2000002 ≤ k by omega) (kind:=kind) (value:=value) hn hc hcl
 have h2:=implMasksValid_ok (show 2000000 ≤ k by omega) (n:=n) (by omega) hm hml hr
 have hcs:=hc.len
 unfold ruleMasksS
 cases e1:ruleOk n kind cells value with
 | false=>
  rw [e1] at h1
  refine ⟨Sl.none,H,by simp only [impl_RuleMasks.f,impl_RuleMasks.j0,dt,df,bt,bf,nt,nf,Za,Zy,Zx,Zt,Zf,Zn,Zz,Zi,Zo,wr,AV.toB,AV.toI,AV.toS,if_true,h1],(List.prefix_refl _),.inl ⟨rfl,?_⟩⟩
  rw [iN (by simp)]
 | true=>
  rw [e1] at h1
  cases e2:masksOk n l with
  | false=>
   rw [e2] at h2
   refine ⟨Sl.none,H,by simp only [impl_RuleMasks.f,impl_RuleMasks.j0,dt,df,bt,bf,nt,nf,Za,Zy,Zx,Zt,Zf,Zn,Zz,Zi,Zo,wr,AV.toB,AV.toI,AV.toS,if_true,h1,h2],(List.prefix_refl _),.inl ⟨rfl,?_⟩⟩
   rw [iN (by simp)]
  | true=>
   rw [e2] at h2
   rw [ip ⟨by rw [decide_eq_true hn]; rfl,rfl⟩]
   have hcb:=(ruleOk_cells e1).2.1
   obtain ⟨t',H',b1,b2,b3⟩:=implRM_l2 (show 2000030 ≤ k by omega) hc hm e1 e2 cells.length 0 k (H ++ [some (Blk.mk false [])]) (Sl.mk false H.length 0 0) (by omega) (by omega) (List.prefix_append _ _) (own_new 1 H [] 0 rfl)
   refine ⟨t',H',?_,b2,.inr b3⟩
   simp only [Int.natCast_zero] at b1
   simp only [impl_RuleMasks.f,impl_RuleMasks.j0,impl_RuleMasks.j1,dt,df,bt,bf,nt,nf,Za,Zy,Zx,Zt,Zf,Zn,Zz,Zi,Zo,wr,AV.toB,AV.toI,AV.toS,if_true,h1,h2,hcs,b1]
theorem iRules_l3 (rec:Rec) (k:Nat) (L2:Sl→Sl→Int→Int→Int→Sl→Sl→Hp→An) {H0 Hb:Hp} {n kind value x24:Int} {gs s cs us t x23:Sl} {cells fl:List Int} {i m:Nat} (hc:Reads .i64 H0 cs cells) (hcl:cells.length ≤ 1000) (hfl:fl.length=cells.length) (hin:∀ c ∈ cells,0 ≤ c∧c < (m:Int)) (hm:m ≤ 1000) (htb:t.blk < Hb.length) :
  ∀ (j q fuel:Nat) (H:Hp) (a:List Int),q + j=cells.length→j < fuel→H0 <+: H→Own 1 Hb H us (fl.map (.int .i64))→Own 1 H0 H t (a.map (.int .i64))→a.length=m →
   ∃ H',impl_NarrowRules.l3 rec k L2 fuel t x23 x24 i us (cells.length:Int) q n gs s kind cs value H=L2 t x23 x24 (IntKind.i64.wrap ((i:Int) + 1)) n gs s H'∧H0 <+: H'∧Own 1 H0 H' t ((setAll cells a fl q j).map (.int .i64))∧Adv t.blk H H':=by
 have hcs:=hc.len
 intro j
 induction j with
 | zero=>
  intro q fuel H a hq hf hp hu ho ha
  obtain ⟨fuel,rfl⟩:=Zs fuel (by omega)
  refine ⟨H,?_,hp,ho,Adv.refl _ _⟩
  simp (disch:=omega) only [impl_NarrowRules.l3,impl_NarrowRules.j5,df,Zf]
 | succ j ih=>
  intro q fuel H a hq hf hp hu ho ha
  obtain ⟨fuel,rfl⟩:=Zs fuel (by omega)
  have hq2:q < cells.length:=by omega
  obtain ⟨c0,c1⟩:=hin _ (mem_getD hq2)
  have hus:=(own_reads hu).len
  have htl:=(own_reads ho).len
  have hrc:=pf_reads hp hc
  obtain ⟨H1,a1,a2,a3,a4⟩:=own_set1 ho hp (cells.getD q 0).toNat (by omega) (fl.getD q 0)
  obtain ⟨H',b1,b2,b3,b4⟩:=ih (q + 1) fuel H1 _ (by omega) (by omega) a2 (a4.own htb hu) a3 (by simpa using ha)
  push_cast at b1
  refine ⟨H',?_,b2,b3,a4.trans b4⟩
  simp (disch:=omega) only [impl_NarrowRules.l3,dt,Za,Zt,Zn,Zo,rdn hrc,rdn (own_reads hu),a1,wr (n:=(q:Int) + 1),b1]
theorem iRules_l2 {k:Nat} (hk:2000040 ≤ k) {H0:Hp} {n:Int} {gs s t:Sl} {given:List Int} {rs:List R} (hz:PuzAt H0 n gs s given rs) (hro:∀ r ∈ rs,R.ok n r=true) :
  ∀ (j i fuel:Nat) (H:Hp) (a:List Int),i + j=rs.length→j < fuel→H0 <+: H→Own 1 H0 H t (a.map (.int .i64))→masksOk n a=true →
   ∃ H',impl_NarrowRules.l2 (callF PP orc k) k fuel t s (rs.length:Int) i n gs s H=some (.sl 1 t,H')∧H0 <+: H'∧Own 1 H0 H' t ((((rs.drop i).map R.val).foldl (ruleStep n) a).map (.int .i64)):=by
 have hrl:=hz.rr.len
 have hrl2:=hz.rl
 have hn:=hz.n4
 intro j
 induction j with
 | zero=>
  intro i fuel H a hi hf hp ho ha
  obtain ⟨fuel,rfl⟩:=Zs fuel (by omega)
  rw [List.drop_eq_nil_of_le (by omega)]
  refine ⟨H,?_,hp,ho⟩
  simp (disch:=omega) only [impl_NarrowRules.l2,impl_NarrowRules.j4,df,Zf]
 | succ j ih=>
  intro i fuel H a hi hf hp ho ha
  obtain ⟨fuel,rfl⟩:=Zs fuel (by omega)
  have hi2:i < rs.length:=by omega
  obtain ⟨l0,l1,l2⟩:=rules_at1 (pf_readsR hp hz.rr) i hi2
  have hrc:=hz.rc _ (List.getElem_mem hi2)
  have hok:ruleOkV n rs[i].val=true:=hro _ (List.getElem_mem hi2)
  obtain ⟨c1,c2,c3,c4⟩:=ruleOk_cells hok
  obtain ⟨ml4,ml16,_⟩:=masks_len ha
  have hm2:=(masksOk_iff.1 ha).2.2
  obtain ⟨d1',d2',d3'⟩:=dm_of ha
  obtain ⟨u,H1,a1,a2,a3⟩:=implRuleMasks_ok hk (kind:=rs[i].kind) (value:=rs[i].value) hn (pf_reads hp (hz.rr.cs i hi2)) (own_reads ho) (by omega) (by omega) d3'
  have e:ruleMasksS n rs[i].kind rs[i].value rs[i].cells a=ruleMasksV rs[i].kind rs[i].value (ownOf a rs[i].cells):=ruleMasks_S hok ha
  have h4:rs[i].cells.length ≤ 4:=c2
  have h1':1 ≤ rs[i].cells.length:=c3
  have hfl:(ruleMasksS n rs[i].kind rs[i].value rs[i].cells a).length=rs[i].cells.length:=by
   rw [e,(ruleMasks_ok (by rw [own_len]; exact h4)).2,own_len]
  have a3':Own 1 H H1 u ((ruleMasksS n rs[i].kind rs[i].value rs[i].cells a).map (.int .i64)):=by
   rcases a3 with ⟨_,h⟩ | h
   ·rw [h] at hfl; simp at hfl; omega
   ·exact h
  have hul:=(own_reads a3').len
  obtain ⟨H2,b1,b2,b3,b4⟩:=iRules_l3 (callF PP orc k) k (impl_NarrowRules.l2 (callF PP orc k) k fuel) (n:=n) (kind:=rs[i].kind) (value:=rs[i].value) (gs:=gs) (s:=s) (x23:=s) (x24:=(rs.length:Int)) (i:=i) (m:=a.length) (hz.rr.cs i hi2) hrc hfl (fun c hc=>by have:=c1 c hc; omega) (by omega) (own_lt' ho) rs[i].cells.length 0 k H1 a (by omega) (by omega) (hp.trans a2) a3' (own_pf ho a2) rfl
  have hst:masksOk n (ruleStep n a rs[i].val)=true:=(ruleStep_sub hok ha).ok ha
  obtain ⟨H',d1,d2,d3⟩:=ih (i + 1) fuel H2 (ruleStep n a rs[i].val) (by omega) (by omega) b2 b3 hst
  push_cast at d1
  rw [val_drop rs i hi2,List.foldl_cons]
  refine ⟨H',?_,d2,d3⟩
  simp only [Int.natCast_zero] at b1
  have hul2:(u.len:Int)=(rs[i].cells.length:Int):=by omega
  simp (disch:=omega) only [impl_NarrowRules.l2,dt,Za,Zt,Zn,Zo,l0,l1,l2,a1,AV.toS,if_true,hul2,b1,wr (n:=(i:Int) + 1),d1]
theorem implNarrowRules_ok {k:Nat} (hk:2000050 ≤ k) {H:Hp} {n:Int} {gs s ms:Sl} {given l:List Int} {rs:List R} (hz:PuzAt H n gs s given rs) (hm:Reads .i64 H ms l) (hnn:ms.nil=false) (hl:l.length ≤ 1000) (hr:∀ m ∈ l,-2 ≤ m∧m ≤ 63) :
  ∃ t H',callF PP orc k impl_NarrowRules.id [.agg [.int .i64 n,.sl 1 gs,.sl 3 s],.sl 1 ms] H=some (.sl 1 t,H')∧H <+: H'∧NilOr H H' t (rulesV n given (rs.map R.val) l):=by
 obtain ⟨k,rfl⟩:=Zs k (by omega)
 rw [impl_NarrowRules.call]
 have hn:=hz.n4
 have h1:=implPuzzleValid_ok (show 2000003 ≤ k by omega) hz.n4 hz.rg hz.gl hz.rr hz.rl hz.rc
 rw [puzzle_map] at h1
 have h2:=implMasksValid_ok (show 2000000 ≤ k by omega) (n:=n) (by omega) hm hl hr
 unfold rulesV
 cases e1:puzzleV n given (rs.map R.val) with
 | false=>
  rw [e1] at h1
  rw [iN (by simp)]
  exact ⟨Sl.none,H,by simp only [impl_NarrowRules.f,impl_NarrowRules.j0,dt,df,bt,bf,nt,nf,Za,Zy,Zx,Zt,Zf,Zn,Zz,Zi,Zo,wr,AV.toB,AV.toI,AV.toS,if_true,h1],(List.prefix_refl _),.inl ⟨rfl,rfl⟩⟩
 | true=>
  rw [e1] at h1
  cases e2:masksOk n l with
  | false=>
   rw [e2] at h2
   rw [iN (by simp)]
   exact ⟨Sl.none,H,by simp only [impl_NarrowRules.f,impl_NarrowRules.j0,dt,df,bt,bf,nt,nf,Za,Zy,Zx,Zt,Zf,Zn,Zz,Zi,Zo,wr,AV.toB,AV.toI,AV.toS,if_true,h1,h2],(List.prefix_refl _),.inl ⟨rfl,rfl⟩⟩
  | true=>
   rw [e2] at h2
   rw [ip ⟨rfl,rfl⟩]
   have h3:=Clone_own (show 1 ≤ k by omega) hm hnn hl
   have hnew:=own_new 1 H (l.map (.int .i64)) l.length (by simp)
   obtain ⟨_,_,q3⟩:=puzzleV_iff e1
   have hrl:=hz.rl
   have hrs:=hz.rr.len
   obtain ⟨H',b1,b2,b3⟩:=iRules_l2 (show 2000040 ≤ k by omega) hz q3 rs.length 0 k (H ++ [some (Blk.mk false (l.map (.int .i64)))]) l (by omega) (by omega) (List.prefix_append _ _) hnew e2
   rw [List.drop_zero] at b3
   refine ⟨_,H',?_,b2,.inr b3⟩
   simp only [Int.natCast_zero] at b1
   simp only [impl_NarrowRules.f,impl_NarrowRules.j0,impl_NarrowRules.j1,dt,df,bt,bf,nt,nf,Za,Zy,Zx,Zt,Zf,Zn,Zz,Zi,Zo,wr,AV.toB,AV.toI,AV.toS,if_true,h1,h2,h3,hrs,b1]
theorem implNarrowBy_ok {k:Nat} (hk:2000060 ≤ k) {H:Hp} {n:Int} {gs s ms:Sl} {given l:List Int} {rs:List R} (hz:PuzAt H n gs s given rs) (hm:Reads .i64 H ms l) (hnn:ms.nil=false) (hl:l.length ≤ 1000) (hr:∀ m ∈ l,-2 ≤ m∧m ≤ 63) (t:Int) :
  ∃ u H',callF PP orc k impl_NarrowBy.id [.agg [.int .i64 n,.sl 1 gs,.sl 3 s],.sl 1 ms,.int .i64 t] H=some (.sl 1 u,H')∧H <+: H'∧NilOr H H' u (narrowV n given (rs.map R.val) l t):=by
 obtain ⟨k,rfl⟩:=Zs k (by omega)
 rw [impl_NarrowBy.call]
 have hn:=hz.n4
 have h1:=implPuzzleValid_ok (show 2000003 ≤ k by omega) hz.n4 hz.rg hz.gl hz.rr hz.rl hz.rc
 rw [puzzle_map] at h1
 cases e1:puzzleV n given (rs.map R.val) with
 | false=>
  rw [e1] at h1
  have e:narrowV n given (rs.map R.val) l t=[]:=by unfold narrowV; rw [if_neg (by rw [e1]; simp)]
  rw [e]
  exact ⟨Sl.none,H,by simp only [impl_NarrowBy.f,dt,df,bt,bf,nt,nf,Za,Zy,Zx,Zt,Zf,Zn,Zz,Zi,Zo,wr,AV.toB,AV.toI,AV.toS,if_true,h1],(List.prefix_refl _),.inl ⟨rfl,rfl⟩⟩
 | true=>
  rw [e1] at h1
  by_cases t1:t=1
  ·obtain ⟨u,H',a1,a2,a3⟩:=implNarrowSingles_ok (show 2000010 ≤ k by omega) (n:=n) (by omega) hm hnn hl hr
   have e:narrowV n given (rs.map R.val) l t=singlesV n l:=by
    unfold narrowV singlesV; rw [e1]
    by_cases c:masksOk n l=true
    ·simp [c,t1]
    ·simp [c]
   rw [e]
   exact ⟨u,H',by simp only [impl_NarrowBy.f,dt,df,bt,bf,nt,nf,Za,Zy,Zx,Zt,Zf,Zn,Zz,Zi,Zo,wr,AV.toB,AV.toI,AV.toS,if_true,h1,bt t1,a1],a2,a3⟩
  by_cases t2:t=2
  ·obtain ⟨u,H',a1,a2,a3⟩:=implNarrowHidden_ok (show 2000010 ≤ k by omega) (n:=n) (by omega) hm hnn hl hr
   have e:narrowV n given (rs.map R.val) l t=hiddenV n l:=by
    unfold narrowV hiddenV; rw [e1]
    by_cases c:masksOk n l=true
    ·simp [c,t2]
    ·simp [c]
   rw [e]
   exact ⟨u,H',by simp only [impl_NarrowBy.f,dt,df,bt,bf,nt,nf,Za,Zy,Zx,Zt,Zf,Zn,Zz,Zi,Zo,wr,AV.toB,AV.toI,AV.toS,if_true,h1,bf t1,bt t2,a1],a2,a3⟩
  by_cases t3:t=3
  ·obtain ⟨u,H',a1,a2,a3⟩:=implNarrowPairs_ok (show 2000010 ≤ k by omega) (n:=n) (by omega) hm hnn hl hr
   have e:narrowV n given (rs.map R.val) l t=pairsV n l:=by
    unfold narrowV pairsV; rw [e1]
    by_cases c:masksOk n l=true
    ·simp [c,t3]
    ·simp [c]
   rw [e]
   exact ⟨u,H',by simp only [impl_NarrowBy.f,dt,df,bt,bf,nt,nf,Za,Zy,Zx,Zt,Zf,Zn,Zz,Zi,Zo,wr,AV.toB,AV.toI,AV.toS,if_true,h1,bf t1,bf t2,bt t3,a1],a2,a3⟩
  by_cases t4:t=4
  ·obtain ⟨u,H',a1,a2,a3⟩:=implNarrowRules_ok (show 2000050 ≤ k by omega) hz hm hnn hl hr
   have e:narrowV n given (rs.map R.val) l t=rulesV n given (rs.map R.val) l:=by
    unfold narrowV rulesV; rw [e1]
    by_cases c:masksOk n l=true
    ·simp [c,t4]
    ·simp [c]
   rw [e]
   exact ⟨u,H',by simp only [impl_NarrowBy.f,dt,df,bt,bf,nt,nf,Za,Zy,Zx,Zt,Zf,Zn,Zz,Zi,Zo,wr,AV.toB,AV.toI,AV.toS,if_true,h1,bf t1,bf t2,bf t3,bt t4,a1],a2,a3⟩
  have e:narrowV n given (rs.map R.val) l t=[]:=by
   unfold narrowV
   simp [t1,t2,t3,t4]
  rw [e]
  exact ⟨Sl.none,H,by simp only [impl_NarrowBy.f,dt,df,bt,bf,nt,nf,Za,Zy,Zx,Zt,Zf,Zn,Zz,Zi,Zo,wr,AV.toB,AV.toI,AV.toS,if_true,h1,bf t1,bf t2,bf t3,bf t4],(List.prefix_refl _),.inl ⟨rfl,rfl⟩⟩
theorem next_at {N:List Int→Int→List Int} {l:List Int}:∀ (j:Nat) (s t:Int),s ≤ t→t < s + j→(∀ w,s ≤ w→w < t→N l w=l)→N l t ≠ l→nextFrom N l j s=some (t,N l t)
 | 0,s,t,h1,h2,_,_=>by omega
 | j + 1,s,t,h1,h2,h3,h4=>by
  rw [nextFrom]
  by_cases e:s=t
  ·subst e; rw [if_neg h4]
  ·rw [if_pos (h3 s (Int.le_refl _) (by omega))]
   exact next_at j (s + 1) t (by omega) (by omega) (fun w h5 h6=>h3 w (by omega) h6) h4
noncomputable def allV (n:Int) (given:List Int) (vs:List V) (l:List Int) (most:Int):List Int × Int:=
 if puzzleV n given vs=true∧masksOk n l=true∧1 ≤ most∧most ≤ 4 then (lastV (runS (narrowV n given vs) most.toNat l) l,((runS (narrowV n given vs) most.toNat l).length:Int)) else ([],-1)
theorem iStart_l0 {k:Nat} (hk:2000003 ≤ k) {H0:Hp} {n:Int} {gs s t:Sl} {given:List Int} (hg0:Reads .i64 H0 gs given) (hg:gridOk given n=true) :
  ∀ (j i fuel:Nat) (H:Hp),i + j=given.length→j < fuel→H0 <+: H→Own 1 H0 H t ((openOf n (given.take i) ++ List.replicate j 0).map (.int .i64)) →
   ∃ H',impl_StartMasks.l0 (callF PP orc k) k fuel t gs (given.length:Int) i n gs s H=some (.sl 1 t,H')∧H0 <+: H'∧Own 1 H0 H' t ((openOf n given).map (.int .i64)):=by
 obtain ⟨hn,g2,g3⟩:=(gridOk_iff given n).1 hg
 have h16:=gridOk_len hg
 have hgl:=hg0.len
 have hol:∀ l:List Int,(openOf n l).length=l.length:=fun l=>by simp [openOf]
 intro j
 induction j with
 | zero=>
  intro i fuel H hi hf hp ho
  obtain ⟨fuel,rfl⟩:=Zs fuel (by omega)
  refine ⟨H,?_,hp,?_⟩
  ·simp (disch:=omega) only [impl_StartMasks.l0,impl_StartMasks.j2,df,Zf]
  ·rw [List.take_of_length_le (by omega)] at ho
   simpa using ho
 | succ j ih=>
  intro i fuel H hi hf hp ho
  obtain ⟨fuel,rfl⟩:=Zs fuel (by omega)
  have hi2:i < given.length:=by omega
  obtain ⟨v0,v1⟩:=g3 _ (mem_getD hi2)
  have htl:t.len=given.length:=by have:=(own_reads ho).len; simp [hol] at this; omega
  have hse:∀ v:Int,v=(if given.getD i 0 > 0 then pw (given.getD i 0) else topMask n)→(openOf n (given.take i) ++ List.replicate (j + 1) 0).set i v=openOf n (given.take (i + 1)) ++ List.replicate j 0:=fun v hv=>by
   rw [List.set_append_right _ _ (by rw [hol]; simp; omega),List.take_succ_eq_append_getElem hi2]
   unfold openOf
   rw [List.map_append,List.append_assoc,hv,List.getD_eq_getElem?_getD,List.getElem?_eq_getElem hi2]
   simp [show min i given.length=i by omega,List.replicate_succ]
  have hav:=allValues_ok (show 1 ≤ k by omega) hn H
  obtain ⟨H1,a1,a2,a3,a4⟩:=own_set1 ho hp i (by simp [hol]; omega) (topMask n)
  by_cases c:given.getD i 0 > 0
  ·obtain ⟨H2,b1,b2,b3,b4⟩:=own_set1 a3 a2 i (by simp [hol]; omega) (pw (given.getD i 0))
   have e2:((openOf n (given.take i) ++ List.replicate (j + 1) 0).set i (topMask n)).set i (pw (given.getD i 0))=openOf n (given.take (i + 1)) ++ List.replicate j 0:=by
    rw [List.set_set]; exact hse _ (by rw [if_pos c])
   rw [e2] at b3
   obtain ⟨H',d1,d2,d3⟩:=ih (i + 1) fuel H2 (by omega) (by omega) b2 b3
   push_cast at d1
   refine ⟨H',?_,d2,d3⟩
   simp (disch:=omega) only [impl_StartMasks.l0,impl_StartMasks.j1,dt,Za,Zt,Zn,Zo,AV.toI,if_true,rdn (pf_reads hp hg0),hav,a1,iN,m_shl v0,b1,wr (n:=(i:Int) + 1),d1]
  ·rw [hse _ (by rw [if_neg c])] at a3
   obtain ⟨H',d1,d2,d3⟩:=ih (i + 1) fuel H1 (by omega) (by omega) a2 a3
   push_cast at d1
   refine ⟨H',?_,d2,d3⟩
   simp (disch:=omega) only [impl_StartMasks.l0,impl_StartMasks.j1,dt,df,Za,Zt,Zf,Zn,Zo,AV.toI,if_true,rdn (pf_reads hp hg0),hav,a1,wr (n:=(i:Int) + 1),d1]
theorem implStartMasks_ok {k:Nat} (hk:2000010 ≤ k) {H:Hp} {n:Int} {gs s:Sl} {given:List Int} {rs:List R} (hz:PuzAt H n gs s given rs) :
  ∃ t H',callF PP orc k impl_StartMasks.id [.agg [.int .i64 n,.sl 1 gs,.sl 3 s]] H=some (.sl 1 t,H')∧H <+: H'∧NilOr H H' t (startV n given (rs.map R.val)):=by
 obtain ⟨k,rfl⟩:=Zs k (by omega)
 rw [impl_StartMasks.call]
 have h1:=implPuzzleValid_ok (show 2000003 ≤ k by omega) hz.n4 hz.rg hz.gl hz.rr hz.rl hz.rc
 rw [puzzle_map] at h1
 have hgl:=hz.rg.len
 unfold startV
 cases e1:puzzleV n given (rs.map R.val) with
 | false=>
  rw [e1] at h1
  rw [iN (by simp)]
  exact ⟨Sl.none,H,by simp only [impl_StartMasks.f,dt,df,bt,bf,nt,nf,Za,Zy,Zx,Zt,Zf,Zn,Zz,Zi,Zo,wr,AV.toB,AV.toI,AV.toS,if_true,h1],(List.prefix_refl _),.inl ⟨rfl,rfl⟩⟩
 | true=>
  rw [e1] at h1
  rw [ip rfl]
  have hg:=(puzzleV_grid e1).1
  have h16:=gridOk_len hg
  have hnew:=own_new 1 H ((List.replicate given.length (0:Int)).map (.int .i64)) given.length (by simp)
  obtain ⟨H',b1,b2,b3⟩:=iStart_l0 (show 2000003 ≤ k by omega) (s:=s) hz.rg hg given.length 0 k (H ++ [some (Blk.mk false ((List.replicate given.length (0:Int)).map (.int .i64)))]) (by omega) (by omega) (List.prefix_append _ _) (by
   have e:openOf n (given.take 0)=[]:=rfl
   rw [e,List.nil_append]; exact hnew)
  refine ⟨_,H',?_,b2,.inr b3⟩
  simp only [Int.natCast_zero] at b1
  simp only [impl_StartMasks.f,dt,df,bt,bf,nt,nf,Za,Zy,Zx,Zt,Zf,Zn,Zz,Zi,Zo,wr,AV.toB,AV.toI,AV.toS,if_true,h1,hgl,flat0s]
  rw [ip (by omega),b1]
/-! ### Rounds -/
def RoundTo (H0:Hp) (N:List Int→Int→List Int) (most:Nat) (a:List Int) (r:An):Prop:=
 (nextFrom N a most 1=none∧∃ H',r=some (.tup [.sl 1 Sl.none,.int .i64 0],H')∧H0 <+: H') ∨ (∃ t u H',nextFrom N a most 1=some (t,N a t)∧1 ≤ t∧r=some (.tup [.sl 1 u,.int .i64 t],H')∧H0 <+: H'∧Own 1 H0 H' u ((N a t).map (.int .i64)))
theorem nextRound_l0 {k:Nat} (hk:2000060 ≤ k) {H0:Hp} {n:Int} {gs s us:Sl} {given a:List Int} {rs:List R} (hz:PuzAt H0 n gs s given rs) (hp:puzzleV n given (rs.map R.val)=true) {most:Nat} (hm:most ≤ 4) (hu:Reads .i64 H0 us a) (hun:us.nil=false) (ha:masksOk n a=true) :
  ∀ (j t fuel:Nat) (H:Hp),t + j=most + 1→1 ≤ t→j < fuel→H0 <+: H→(∀ w:Int,1 ≤ w→w < (t:Int)→narrowV n given (rs.map R.val) a w=a) →
   RoundTo H0 (narrowV n given (rs.map R.val)) most a (impl_nextRound.l0 (callF PP orc k) k fuel us (most:Int) (t:Int) n gs s H):=by
 have hgood:=narrow_good hp hm
 obtain ⟨q1,q2,q3⟩:=dm_of ha
 intro j
 induction j with
 | zero=>
  intro t fuel H ht ht1 hf hpf hw
  obtain ⟨fuel,rfl⟩:=Zs fuel (by omega)
  left
  refine ⟨(next_none most 1).2 fun w w1 w2=>hw w w1 (by omega),H,?_,hpf⟩
  simp (disch:=omega) only [impl_nextRound.l0,impl_nextRound.j1,df,Zf]
 | succ j ih=>
  intro t fuel H ht ht1 hf hpf hw
  obtain ⟨fuel,rfl⟩:=Zs fuel (by omega)
  obtain ⟨v,H1,a1,a2,a3⟩:=implNarrowBy_ok hk (hz.pf hpf) (pf_reads hpf hu) hun (by omega) q3 (t:Int)
  have hg:=hgood a t ha (by omega) (by omega)
  obtain ⟨r1,r2,r3⟩:=dm_of hg.1
  have h2:=Equal_ok (show 2000000 ≤ k by omega) a3.reads (pf_reads a2 (pf_reads hpf hu)) (by omega) (by omega)
  by_cases c:narrowV n given (rs.map R.val) a t=a
  ·rw [decide_eq_true c] at h2
   have:=ih (t + 1) fuel H1 (by omega) (by omega) (by omega) (hpf.trans a2) (fun w w1 w2=>by
    by_cases e:w=t
    ·rw [e]; exact c
    ·exact hw w w1 (by omega))
   push_cast at this
   simp (disch:=omega) only [impl_nextRound.l0,dt,Zt,Zf,Zy,a1,h2,Zo,AV.toS,AV.toB,if_true,wr (n:=(t:Int) + 1)]
   exact this
  ·rw [decide_eq_false c] at h2
   right
   have hne:narrowV n given (rs.map R.val) a t ≠ []:=fun e=>by rw [e] at r2; simp at r2
   have ho:Own 1 H H1 v ((narrowV n given (rs.map R.val) a t).map (.int .i64)):=by
    rcases a3 with ⟨_,h⟩ | h
    ·exact absurd h hne
    ·exact h
   refine ⟨t,v,H1,next_at most 1 t (by omega) (by omega) (fun w w1 w2=>hw w w1 (by omega)) c,by omega,?_,hpf.trans a2,own_base ho hpf⟩
   simp (disch:=omega) only [impl_nextRound.l0,dt,Zt,Zx,a1,h2,Zo,AV.toS,AV.toB,if_true]
theorem nextRound_ok {k:Nat} (hk:2000061 ≤ k) {H:Hp} {n:Int} {gs s us:Sl} {given a:List Int} {rs:List R} (hz:PuzAt H n gs s given rs) (hp:puzzleV n given (rs.map R.val)=true) {most:Nat} (hm:most ≤ 4) (hu:Reads .i64 H us a) (hun:us.nil=false) (ha:masksOk n a=true) :
  RoundTo H (narrowV n given (rs.map R.val)) most a (callF PP orc k impl_nextRound.id [.agg [.int .i64 n,.sl 1 gs,.sl 3 s],.sl 1 us,.int .i64 (most:Int)] H):=by
 obtain ⟨k,rfl⟩:=Zs k (by omega)
 rw [impl_nextRound.call]
 exact nextRound_l0 (by omega) hz hp hm hu hun ha most 1 k H (by omega) (by omega) (by omega) (List.prefix_refl _) (fun w w1 w2=>by omega)
theorem iAll_l2 {k:Nat} (hk:2000061 ≤ k) {H0:Hp} {n:Int} {gs s:Sl} {given:List Int} {rs:List R} (hz:PuzAt H0 n gs s given rs) (hp:puzzleV n given (rs.map R.val)=true) {most:Nat} (hm:most ≤ 4) :
  ∀ (m fuel:Nat) (H:Hp) (u:Sl) (a:List Int) (r:Nat),total a ≤ m→m < fuel→H0 <+: H→Own 1 H0 H u (a.map (.int .i64))→masksOk n a=true→r + total a ≤ 1000 →
   ∃ u' H',impl_NarrowAll.l2 (callF PP orc k) k fuel (most:Int) u (r:Int) n gs s H=some (.tup [.sl 1 u',.int .i64 ((r + (runS (narrowV n given (rs.map R.val)) most a).length:Nat):Int)],H')∧H0 <+: H'∧Own 1 H0 H' u' ((lastV (runS (narrowV n given (rs.map R.val)) most a) a).map (.int .i64)):=by
 have hgood:=narrow_good hp hm
 intro m
 induction m with
 | zero=>
  intro fuel H u a r h1 hf hpf ho ha hr
  obtain ⟨fuel,rfl⟩:=Zs fuel (by omega)
  rcases nextRound_ok hk (hz.pf hpf) hp hm (own_reads ho) ho.nn ha with ⟨hno,H',a1,a2⟩ | ⟨t,v,H1,hso,ht,a1,a2,a3⟩
  ·rw [runS_none hno]
   refine ⟨u,H',?_,hpf.trans a2,own_pf ho a2⟩
   simp only [impl_NarrowAll.l2,a1,Zo,AV.isTup,AV.nth,AV.toI,AV.toS,Zl,Zm,Zc,Zd,if_true,beq_self_eq_true,Zt,Nat.add_zero]
  ·have:=(next_good hgood ha hso).2.2
   omega
 | succ m ih=>
  intro fuel H u a r h1 hf hpf ho ha hr
  obtain ⟨fuel,rfl⟩:=Zs fuel (by omega)
  rcases nextRound_ok hk (hz.pf hpf) hp hm (own_reads ho) ho.nn ha with ⟨hno,H',a1,a2⟩ | ⟨t,v,H1,hso,ht,a1,a2,a3⟩
  ·rw [runS_none hno]
   refine ⟨u,H',?_,hpf.trans a2,own_pf ho a2⟩
   simp only [impl_NarrowAll.l2,a1,Zo,AV.isTup,AV.nth,AV.toI,AV.toS,Zl,Zm,Zc,Zd,if_true,beq_self_eq_true,Zt,Nat.add_zero]
  ·obtain ⟨g1,g2,g3⟩:=next_good hgood ha hso
   obtain ⟨u',H',b1,b2,b3⟩:=ih fuel H1 v _ (r + 1) (by omega) (by omega) (hpf.trans a2) (own_base a3 hpf) g1 (by omega)
   rw [runS_some hgood ha hso]
   push_cast at b1
   refine ⟨u',H',?_,b2,b3⟩
   simp (disch:=omega) only [impl_NarrowAll.l2,a1,Zo,AV.isTup,AV.nth,AV.toI,AV.toS,Zl,Zm,Zc,Zd,if_true,beq_self_eq_true,Zt,Zf,bf (show t ≠ 0 by omega),wr (n:=(r:Int) + 1),b1]
   congr 6
   push_cast; omega
theorem implNarrowAll_ok {k:Nat} (hk:2000070 ≤ k) {H:Hp} {n:Int} {gs s ms:Sl} {given l:List Int} {rs:List R} (hz:PuzAt H n gs s given rs) (hm:Reads .i64 H ms l) (hnn:ms.nil=false) (hl:l.length ≤ 1000) (hr:∀ m ∈ l,-2 ≤ m∧m ≤ 63) (most:Int) :
  ∃ u H',callF PP orc k impl_NarrowAll.id [.agg [.int .i64 n,.sl 1 gs,.sl 3 s],.sl 1 ms,.int .i64 most] H=some (.tup [.sl 1 u,.int .i64 (allV n given (rs.map R.val) l most).2],H')∧H <+: H'∧NilOr H H' u (allV n given (rs.map R.val) l most).1:=by
 obtain ⟨k,rfl⟩:=Zs k (by omega)
 rw [impl_NarrowAll.call]
 have hn:=hz.n4
 have h1:=implPuzzleValid_ok (show 2000003 ≤ k by omega) hz.n4 hz.rg hz.gl hz.rr hz.rl hz.rc
 rw [puzzle_map] at h1
 have h2:=implMasksValid_ok (show 2000000 ≤ k by omega) (n:=n) (by omega) hm hl hr
 unfold allV
 cases e1:puzzleV n given (rs.map R.val) with
 | false=>
  rw [e1] at h1
  rw [iN (by simp)]
  exact ⟨Sl.none,H,by simp only [impl_NarrowAll.f,impl_NarrowAll.j0,dt,df,bt,bf,nt,nf,Za,Zy,Zx,Zt,Zf,Zn,Zz,Zi,Zo,wr,AV.toB,AV.toI,AV.toS,if_true,h1],(List.prefix_refl _),.inl ⟨rfl,rfl⟩⟩
 | true=>
  rw [e1] at h1
  cases e2:masksOk n l with
  | false=>
   rw [e2] at h2
   rw [iN (by simp)]
   exact ⟨Sl.none,H,by simp only [impl_NarrowAll.f,impl_NarrowAll.j0,dt,df,bt,bf,nt,nf,Za,Zy,Zx,Zt,Zf,Zn,Zz,Zi,Zo,wr,AV.toB,AV.toI,AV.toS,if_true,h1,h2],(List.prefix_refl _),.inl ⟨rfl,rfl⟩⟩
  | true=>
   rw [e2] at h2
   by_cases c:1 ≤ most∧most ≤ 4
   ·rw [ip ⟨rfl,rfl,c⟩]
    obtain ⟨M,rfl⟩:=Int.eq_ofNat_of_zero_le (show 0 ≤ most by omega)
    have h4:=Clone_own (show 1 ≤ k by omega) hm hnn hl
    have hnew:=own_new 1 H (l.map (.int .i64)) l.length (by simp)
    have ht:=total_le e2
    obtain ⟨u',H',b1,b2,b3⟩:=iAll_l2 (show 2000061 ≤ k by omega) hz e1 (most:=M) (by omega) (total l) k (H ++ [some (Blk.mk false (l.map (.int .i64)))]) _ l 0 (by omega) (by omega) (List.prefix_append _ _) hnew e2 (by omega)
    rw [Int.toNat_natCast]
    refine ⟨u',H',?_,b2,.inr b3⟩
    rw [Nat.zero_add] at b1
    simp (disch:=omega) only [impl_NarrowAll.f,impl_NarrowAll.j0,impl_NarrowAll.j1,df,Zt,Zf,Zy,Zo,AV.toB,AV.toS,if_true,h1,h2,h4]
    exact b1
   ·rw [iN (fun h=>c ⟨h.2.2.1,h.2.2.2⟩)]
    refine ⟨Sl.none,H,?_,(List.prefix_refl _),.inl ⟨rfl,rfl⟩⟩
    by_cases c1:most < 1
    ·simp (disch:=omega) only [impl_NarrowAll.f,impl_NarrowAll.j0,dt,Zt,Zf,Zy,Zo,AV.toB,h1,h2]
    ·have c2:most > 4:=by omega
     simp (disch:=omega) only [impl_NarrowAll.f,impl_NarrowAll.j0,dt c2,df,Zt,Zf,Zy,Zo,AV.toB,h1,h2]
def pv (p:Int × Int):List AV:=[.int .i64 p.1,.int .i64 p.2]
def stepP (r:List (Int × List Int)):List (Int × Int):=r.map fun x=>(x.1,(total x.2:Int))
theorem pv_at:∀ (ps:List (Int × Int)) (i:Nat),(h:i < ps.length)→(ps.flatMap pv)[i * 2]?=some (.int .i64 ps[i].1)∧(ps.flatMap pv)[i * 2 + 1]?=some (.int .i64 ps[i].2)
 | p :: ps,0,h=>by simp [pv]
 | p :: ps,i + 1,h=>by
  have:=pv_at ps i (by simpa using h)
  rw [show (i + 1) * 2=i * 2 + 2 by omega]
  simpa [pv] using this
theorem pv_length (ps:List (Int × Int)):(ps.flatMap pv).length=ps.length * 2:=by
 induction ps with
 | nil=>rfl
 | cons r rs ih=>simp [ih,pv]; omega
theorem pv_len {H0 H:Hp} {s:Sl} {ps:List (Int × Int)} (h:Own 2 H0 H s (ps.flatMap pv)):s.len=ps.length:=by
 have:=h.len; rw [pv_length] at this; omega
theorem pv_rd {H0 H:Hp} {s:Sl} {ps:List (Int × Int)} (h:Own 2 H0 H s (ps.flatMap pv)) {i:Nat} (hi:i < ps.length):ldI .i64 H s.blk (s.off + i * 2)=some (ps.getD i (0,0)).1∧ldI .i64 H s.blk (s.off + i * 2 + 1)=some (ps.getD i (0,0)).2:=by
 have e:ps.getD i (0,0)=ps[i]:=by rw [List.getD_eq_getElem?_getD,List.getElem?_eq_getElem hi]; rfl
 rw [e]
 unfold ldI
 rw [Nat.add_assoc,own_cell h,own_cell h,(pv_at ps i hi).1,(pv_at ps i hi).2]
 exact ⟨rfl,rfl⟩
theorem pv_app {H0 H:Hp} {t:Sl} {ps:List (Int × Int)} (h:Own 2 H0 H t (ps.flatMap pv)) (g:H0 <+: H) (hl:ps.length ≤ 1000) (a b:Int) :
  ∃ t' H',H.app 2 t 1 [.int .i64 a,.int .i64 b]=some (t',H')∧H0 <+: H'∧Own 2 H0 H' t' ((ps ++ [(a,b)]).flatMap pv)∧But t.blk H H'∧t'.blk=H.length∧H'.length=H.length + 1:=by
 have hlen:=pv_len h
 obtain ⟨H',a1,a2,a3,a4,a5⟩:=own_app h g 1 [.int .i64 a,.int .i64 b] (by omega) (by omega) (by omega) (by omega) rfl
 exact ⟨_,H',a1,a2,by simpa [pv] using a3,a4,rfl,a5⟩
theorem massV_ok {n:Int} {l:List Int} (h:masksOk n l=true):massV n l=(total l:Int):=by unfold massV; rw [if_pos h]
noncomputable def stepsL (n:Int) (given:List Int) (vs:List V) (most:Int):List (Int × Int):=
 if puzzleV n given vs=true∧1 ≤ most∧most ≤ 4 then stepP (runS (narrowV n given vs) most.toNat (openOf n given)) else []
def NilP (H0 H:Hp) (t:Sl) (l:List (Int × Int)):Prop:=(t=Sl.none∧l=[]) ∨ Own 2 H0 H t (l.flatMap pv)
theorem iSteps_l2 {k:Nat} (hk:2000061 ≤ k) {H0:Hp} {n:Int} {gs s:Sl} {given:List Int} {rs:List R} (hz:PuzAt H0 n gs s given rs) (hp:puzzleV n given (rs.map R.val)=true) {most:Nat} (hm:most ≤ 4) :
  ∀ (m fuel:Nat) (H:Hp) (u t:Sl) (a:List Int) (ps:List (Int × Int)),total a ≤ m→m < fuel→H0 <+: H→Own 1 H0 H u (a.map (.int .i64))→Own 2 H0 H t (ps.flatMap pv)→u.blk ≠ t.blk→masksOk n a=true→ps.length + total a ≤ 1000 →
   ∃ t' H',impl_SolveSteps.l2 (callF PP orc k) k fuel (most:Int) t u n gs s H=some (.sl 2 t',H')∧H0 <+: H'∧Own 2 H0 H' t' ((ps ++ stepP (runS (narrowV n given (rs.map R.val)) most a)).flatMap pv):=by
 have hgood:=narrow_good hp hm
 have hn:=hz.n4
 intro m
 induction m with
 | zero=>
  intro fuel H u t a ps h1 hf hpf ho ht hne ha hr
  obtain ⟨fuel,rfl⟩:=Zs fuel (by omega)
  rcases nextRound_ok hk (hz.pf hpf) hp hm (own_reads ho) ho.nn ha with ⟨hno,H',a1,a2⟩ | ⟨w,v,H1,hso,hw,a1,a2,a3⟩
  ·rw [runS_none hno]
   refine ⟨t,H',?_,hpf.trans a2,?_⟩
   ·simp only [impl_SolveSteps.l2,a1,Zo,AV.isTup,AV.nth,AV.toI,AV.toS,Zl,Zm,Zc,Zd,if_true,beq_self_eq_true,Zt]
   ·simpa [stepP] using own_pf ht a2
  ·have:=(next_good hgood ha hso).2.2
   omega
 | succ m ih=>
  intro fuel H u t a ps h1 hf hpf ho ht hne ha hr
  obtain ⟨fuel,rfl⟩:=Zs fuel (by omega)
  rcases nextRound_ok hk (hz.pf hpf) hp hm (own_reads ho) ho.nn ha with ⟨hno,H',a1,a2⟩ | ⟨w,v,H1,hso,hw,a1,a2,a3⟩
  ·rw [runS_none hno]
   refine ⟨t,H',?_,hpf.trans a2,?_⟩
   ·simp only [impl_SolveSteps.l2,a1,Zo,AV.isTup,AV.nth,AV.toI,AV.toS,Zl,Zm,Zc,Zd,if_true,beq_self_eq_true,Zt]
   ·simpa [stepP] using own_pf ht a2
  ·obtain ⟨g1,g2,g3⟩:=next_good hgood ha hso
   obtain ⟨q1,q2,q3⟩:=dm_of g1
   have hc:=implMasksCount_ok (show 2000010 ≤ k by omega) (n:=n) (by omega) (own_reads a3) (by omega) q3
   rw [massV_ok g1] at hc
   have htl:=own_lt' ht
   have hvb:=a3.blk
   have hvl:=own_lt' a3
   obtain ⟨t',H2,c1,c2,c3,c4,c5,c6⟩:=pv_app (own_pf ht a2) (hpf.trans a2) (by omega) w (total (narrowV n given (rs.map R.val) a w):Int)
   obtain ⟨t'',H',b1,b2,b3⟩:=ih fuel H2 v t' _ _ (by omega) (by omega) c2 (own_base (c4.own (by omega) a3) hpf) c3 (by omega) g1 (by simp; omega)
   rw [runS_some hgood ha hso]
   refine ⟨t'',H',?_,b2,by simpa [stepP,List.append_assoc] using b3⟩
   simp (disch:=omega) only [impl_SolveSteps.l2,a1,Zo,AV.isTup,AV.nth,AV.toI,AV.toS,Zl,Zm,Zc,Zd,if_true,beq_self_eq_true,Zt,Zf,bf (show w ≠ 0 by omega),hc,c1,b1]
theorem start_ok {n:Int} {given:List Int} {vs:List V} (hp:puzzleV n given vs=true):startV n given vs=openOf n given∧masksOk n (openOf n given)=true:=by
 unfold startV
 rw [if_pos hp]
 exact ⟨rfl,openOf_ok (puzzleV_grid hp).1⟩
theorem nil_own {H0 H:Hp} {t:Sl} {l:List Int} (h:NilOr H0 H t l) (hl:l ≠ []):Own 1 H0 H t (l.map (.int .i64)):=by
 rcases h with ⟨_,h⟩ | h
 ·exact absurd h hl
 ·exact h
theorem ok_ne {n:Int} {l:List Int} (h:masksOk n l=true):l ≠ []:=fun e=>by
 have:=(dm_of h).2.1
 rw [e] at this; simp at this
theorem implSolveSteps_ok {k:Nat} (hk:2000070 ≤ k) {H:Hp} {n:Int} {gs s:Sl} {given:List Int} {rs:List R} (hz:PuzAt H n gs s given rs) (most:Int) :
  ∃ t H',callF PP orc k impl_SolveSteps.id [.agg [.int .i64 n,.sl 1 gs,.sl 3 s],.int .i64 most] H=some (.sl 2 t,H')∧H <+: H'∧NilP H H' t (stepsL n given (rs.map R.val) most):=by
 obtain ⟨k,rfl⟩:=Zs k (by omega)
 rw [impl_SolveSteps.call]
 have h1:=implPuzzleValid_ok (show 2000003 ≤ k by omega) hz.n4 hz.rg hz.gl hz.rr hz.rl hz.rc
 rw [puzzle_map] at h1
 unfold stepsL
 cases e1:puzzleV n given (rs.map R.val) with
 | false=>
  rw [e1] at h1
  rw [iN (by simp)]
  exact ⟨Sl.none,H,by simp only [impl_SolveSteps.f,impl_SolveSteps.j0,dt,df,bt,bf,nt,nf,Za,Zy,Zx,Zt,Zf,Zn,Zz,Zi,Zo,wr,AV.toB,AV.toI,AV.toS,if_true,h1],(List.prefix_refl _),.inl ⟨rfl,rfl⟩⟩
 | true=>
  rw [e1] at h1
  by_cases c:1 ≤ most∧most ≤ 4
  ·rw [ip ⟨rfl,c⟩]
   obtain ⟨M,rfl⟩:=Int.eq_ofNat_of_zero_le (show 0 ≤ most by omega)
   obtain ⟨s1,s2⟩:=start_ok e1
   have hnew:=own_new 2 H (([]:List (Int × Int)).flatMap pv) 0 rfl
   have p1:H <+: H ++ [some (Blk.mk false (([]:List (Int × Int)).flatMap pv))]:=(List.prefix_append _ _)
   obtain ⟨u,H1,a1,a2,a3⟩:=implStartMasks_ok (show 2000010 ≤ k by omega) (hz.pf p1)
   rw [s1] at a3
   have ho:=nil_own a3 (ok_ne s2)
   have hb:=ho.blk
   have ht:=total_le s2
   obtain ⟨t',H',b1,b2,b3⟩:=iSteps_l2 (show 2000061 ≤ k by omega) hz e1 (most:=M) (by omega) (total (openOf n given)) k H1 u (Sl.mk false H.length 0 0) (openOf n given) [] (by omega) (by omega) (p1.trans a2) (own_base ho p1) (own_pf hnew a2) (by simp at hb; simp only; omega) s2 (by simp; omega)
   rw [Int.toNat_natCast]
   rw [List.nil_append] at b3
   refine ⟨t',H',?_,b2,.inr b3⟩
   have a1':callF PP orc k impl_StartMasks.id [.agg [.int .i64 n,.sl 1 gs,.sl 3 s]] (H ++ [some (Blk.mk false [])])=some (.sl 1 u,H1):=a1
   simp (disch:=omega) only [impl_SolveSteps.f,impl_SolveSteps.j0,impl_SolveSteps.j1,df,Zt,Zf,Zy,Zo,AV.toB,AV.toS,if_true,h1,a1',b1]
  ·rw [iN (fun h=>c h.2)]
   refine ⟨Sl.none,H,?_,(List.prefix_refl _),.inl ⟨rfl,rfl⟩⟩
   by_cases c1:most < 1
   ·simp (disch:=omega) only [impl_SolveSteps.f,impl_SolveSteps.j0,dt,Zt,Zf,Zy,Zo,AV.toB,h1]
   ·have c2:most > 4:=by omega
    simp (disch:=omega) only [impl_SolveSteps.f,impl_SolveSteps.j0,dt c2,df,Zt,Zf,Zy,Zo,AV.toB,h1]
theorem sSteps_l2 {k:Nat} (hk:2000060 ≤ k) {H0:Hp} {n:Int} {gs s:Sl} {given:List Int} {rs:List R} (hz:PuzAt H0 n gs s given rs) (hp:puzzleV n given (rs.map R.val)=true) {most:Nat} (hm:most ≤ 4) :
  ∀ (m fuel:Nat) (H:Hp) (u x:Sl) (a:List Int) (ps:List (Int × Int)) (t:Nat),5 * total a + (most + 1 - t) ≤ m→m < fuel→H0 <+: H→Own 1 H0 H u (a.map (.int .i64))→Own 2 H0 H x (ps.flatMap pv)→u.blk ≠ x.blk→masksOk n a=true→1 ≤ t→t ≤ most + 1→(∀ w:Int,1 ≤ w→w < (t:Int)→narrowV n given (rs.map R.val) a w=a)→ps.length + total a ≤ 1000 →
   ∃ x' H',spec_SolveSteps.l2 (callF PP orc k) k fuel (most:Int) x u (t:Int) n gs s H=some (.sl 2 x',H')∧H0 <+: H'∧Own 2 H0 H' x' ((ps ++ stepP (runS (narrowV n given (rs.map R.val)) most a)).flatMap pv):=by
 have hgood:=narrow_good hp hm
 have hn:=hz.n4
 intro m
 induction m with
 | zero=>
  intro fuel H u x a ps t h1 hf hpf ho hx hne ha ht1 ht2 hw hr
  obtain ⟨fuel,rfl⟩:=Zs fuel (by omega)
  have hno:nextFrom (narrowV n given (rs.map R.val)) a most 1=none:=(next_none most 1).2 fun w w1 w2=>hw w w1 (by omega)
  rw [runS_none hno]
  refine ⟨x,H,?_,hpf,by simpa [stepP] using hx⟩
  simp (disch:=omega) only [spec_SolveSteps.l2,spec_SolveSteps.j3,df,Zf]
 | succ m ih=>
  intro fuel H u x a ps t h1 hf hpf ho hx hne ha ht1 ht2 hw hr
  obtain ⟨fuel,rfl⟩:=Zs fuel (by omega)
  by_cases ct:t ≤ most
  ·have hal:=masks_len ha
   obtain ⟨v,H1,a1,a2,a3⟩:=specNarrowBy_ok hk (hz.pf hpf) (own_reads ho) (by omega) (t:Int)
   have hg:=hgood a t ha (by omega) (by omega)
   have hgl:=masks_len hg.1
   have h2:=l8Same_ok (show 2000000 ≤ k by omega) (own_reads a3) (pf_reads a2 (own_reads ho)) (by omega) (by omega)
   by_cases c:narrowV n given (rs.map R.val) a t=a
   ·rw [decide_eq_true c] at h2
    obtain ⟨u',H',b1,b2,b3⟩:=ih fuel H1 u x a ps (t + 1) (by omega) (by omega) (hpf.trans a2) (own_pf ho a2) (own_pf hx a2) hne ha (by omega) (by omega) (fun w w1 w2=>by
     by_cases e:w=t
     ·rw [e]; exact c
     ·exact hw w w1 (by omega)) hr
    push_cast at b1
    refine ⟨u',H',?_,b2,b3⟩
    simp (disch:=omega) only [spec_SolveSteps.l2,dt,Zt,a1,h2,Zo,AV.toS,AV.toB,if_true,wr (n:=(t:Int) + 1),b1]
   ·rw [decide_eq_false c] at h2
    have hno:=next_at most 1 t (by omega) (by omega) (fun w w1 w2=>hw w w1 (by omega)) c
    obtain ⟨q1,q2,q3⟩:=next_good hgood ha hno
    obtain ⟨H2,d1,d2⟩:=specMasksCount_ok (show 2000010 ≤ k by omega) (n:=n) (by omega) (own_reads a3) (by omega)
    rw [massV_ok q1] at d1
    have hxl:=own_lt' hx
    have hvb:=a3.blk
    have hvl:=own_lt' (own_pf a3 d2)
    obtain ⟨x',H3,c1,c2,c3,c4,c5,c6⟩:=pv_app (own_pf hx (a2.trans d2)) ((hpf.trans a2).trans d2) (by omega) (t:Int) (total (narrowV n given (rs.map R.val) a t):Int)
    rw [runS_some hgood ha hno]
    obtain ⟨u',H',b1,b2,b3⟩:=ih fuel H3 v x' (narrowV n given (rs.map R.val) a t) (ps ++ [((t:Int),(total (narrowV n given (rs.map R.val) a t):Int))]) 1 (by omega) (by omega) c2 (own_base (c4.own (by omega) (own_pf a3 d2)) hpf) c3 (by omega) q1 (by omega) (by omega) (fun w w1 w2=>by omega) (by simp; omega)
    push_cast at b1
    refine ⟨u',H',?_,b2,by simpa [stepP,List.append_assoc] using b3⟩
    simp (disch:=omega) only [spec_SolveSteps.l2,dt,Zt,Zf,a1,h2,d1,c1,Zo,AV.toS,AV.toB,AV.toI,if_true,b1]
  ·have hno:nextFrom (narrowV n given (rs.map R.val)) a most 1=none:=(next_none most 1).2 fun w w1 w2=>hw w w1 (by omega)
   rw [runS_none hno]
   refine ⟨x,H,?_,hpf,by simpa [stepP] using hx⟩
   simp (disch:=omega) only [spec_SolveSteps.l2,spec_SolveSteps.j3,df,Zf]
theorem specSolveSteps_ok {k:Nat} (hk:2000070 ≤ k) {H:Hp} {n:Int} {gs s:Sl} {given:List Int} {rs:List R} (hz:PuzAt H n gs s given rs) (most:Int) :
  ∃ t H',callF PP orc k spec_SolveSteps.id [.agg [.int .i64 n,.sl 1 gs,.sl 3 s],.int .i64 most] H=some (.sl 2 t,H')∧H <+: H'∧Own 2 H H' t ((stepsL n given (rs.map R.val) most).flatMap pv):=by
 obtain ⟨k,rfl⟩:=Zs k (by omega)
 rw [spec_SolveSteps.call]
 have hnew:=own_new 2 H (([]:List (Int × Int)).flatMap pv) 0 rfl
 have p1:H <+: H ++ [some (Blk.mk false (([]:List (Int × Int)).flatMap pv))]:=(List.prefix_append _ _)
 have hz1:=hz.pf p1
 have h1:=specPuzzleValid_ok (show 2000003 ≤ k by omega) hz1.n4 hz1.rg hz1.gl hz1.rr hz1.rl hz1.rc
 rw [puzzle_map] at h1
 have h1':callF PP orc k spec_PuzzleValid.id [.agg [.int .i64 n,.sl 1 gs,.sl 3 s]] (H ++ [some (Blk.mk false [])])=some (.bool (puzzleV n given (rs.map R.val)),H ++ [some (Blk.mk false [])]):=h1
 have h3:=l1In_ok (show 1 ≤ k by omega) most 1 4 (H ++ [some (Blk.mk false [])])
 unfold stepsL
 cases e1:puzzleV n given (rs.map R.val) with
 | false=>
  rw [e1] at h1'
  rw [iN (by simp)]
  exact ⟨Sl.mk false H.length 0 0,H ++ [some (Blk.mk false [])],by simp only [spec_SolveSteps.f,spec_SolveSteps.j0,dt,df,bt,bf,nt,nf,Za,Zy,Zx,Zt,Zf,Zn,Zz,Zi,Zo,wr,AV.toB,AV.toI,AV.toS,if_true,h1'],(List.prefix_append _ _),hnew⟩
 | true=>
  rw [e1] at h1'
  by_cases c:1 ≤ most∧most ≤ 4
  ·rw [decide_eq_true c] at h3
   rw [ip ⟨rfl,c⟩]
   obtain ⟨M,rfl⟩:=Int.eq_ofNat_of_zero_le (show 0 ≤ most by omega)
   obtain ⟨s1,s2⟩:=start_ok e1
   obtain ⟨u,H1,a1,a2,a3⟩:=specStartMasks_ok (show 2000010 ≤ k by omega) hz1
   rw [s1] at a3
   have hb:=a3.blk
   have ht:=total_le s2
   obtain ⟨t',H',b1,b2,b3⟩:=sSteps_l2 (show 2000060 ≤ k by omega) hz e1 (most:=M) (by omega) (5 * total (openOf n given) + M) k H1 u (Sl.mk false H.length 0 0) (openOf n given) [] 1 (by omega) (by omega) (p1.trans a2) (own_base a3 p1) (own_pf hnew a2) (by simp at hb; simp only; omega) s2 (by omega) (by omega) (fun w w1 w2=>by omega) (by simp; omega)
   rw [Int.toNat_natCast]
   rw [List.nil_append] at b3
   refine ⟨t',H',?_,b2,b3⟩
   have a1':callF PP orc k spec_StartMasks.id [.agg [.int .i64 n,.sl 1 gs,.sl 3 s]] (H ++ [some (Blk.mk false [])])=some (.sl 1 u,H1):=a1
   simp only [Int.natCast_one] at b1
   simp only [spec_SolveSteps.f,spec_SolveSteps.j0,spec_SolveSteps.j1,Zt,Zf,Zy,Zo,AV.toB,AV.toS,if_true,h1',h3,a1',b1]
  ·rw [decide_eq_false c] at h3
   rw [iN (fun h=>c h.2)]
   exact ⟨Sl.mk false H.length 0 0,H ++ [some (Blk.mk false [])],by simp only [spec_SolveSteps.f,spec_SolveSteps.j0,dt,df,bt,bf,nt,nf,Za,Zy,Zx,Zt,Zf,Zn,Zz,Zi,Zo,wr,AV.toB,AV.toI,AV.toS,if_true,h1',h3],(List.prefix_append _ _),hnew⟩
theorem DrawSolveSteps_ok {k:Nat} (hk:2000501 ≤ k) {H:Hp} {s:Sl} {l:List Int} (hs:Reads .u8 H s l) (hb:∀ x ∈ l,0 ≤ x∧x ≤ 255) :
  ∃ n gs ss given rs z H',callF PP orc k spec_DrawSolveSteps.id [.sl 1 s] H=some (.tup [.agg [.int .i64 n,.sl 1 gs,.sl 3 ss],.int .i64 z],H')∧H <+: H'∧PuzB H H' n gs ss given rs∧-1 ≤ z∧z ≤ 5:=by
 obtain ⟨k,rfl⟩:=Zs k (by omega)
 rw [spec_DrawSolveSteps.call]
 obtain ⟨H1,n,gs,ss,given,rs,l',p',H',a1,a2,a3,a4,a5,a6,a7,a8,a9⟩:=open_puzzle (show 2000500 ≤ k by omega) hs hb (x1:=12) (by omega)
 obtain ⟨w,H2,b1,b2,b3,b4,b5⟩:=pick_adv (show 1 ≤ k by omega) a4 (by omega) 4
 have hw:=b5 (by omega)
 obtain ⟨q,H3,c1,c2,c3,c4,c5⟩:=pick_adv (show 1 ≤ k by omega) b2 (by omega) 7
 have hq:=c5 (by omega)
 have adv3:=b3.trans c3
 obtain ⟨y,e1,y0,y3⟩:∃ y,(([.int .i64 0,.int .i64 0,.int .i64 0,.int .i64 1,.int .i64 1,.int .i64 2,.int .i64 3]:List AV)[q.toNat * 1]?)=some (.int .i64 y)∧0 ≤ y∧y < 4:=by
  have:q=0 ∨ q=1 ∨ q=2 ∨ q=3 ∨ q=4 ∨ q=5 ∨ q=6:=by omega
  rcases this with rfl | rfl | rfl | rfl | rfl | rfl | rfl
  ·exact ⟨0,rfl,by omega,by omega⟩
  ·exact ⟨0,rfl,by omega,by omega⟩
  ·exact ⟨0,rfl,by omega,by omega⟩
  ·exact ⟨1,rfl,by omega,by omega⟩
  ·exact ⟨1,rfl,by omega,by omega⟩
  ·exact ⟨2,rfl,by omega,by omega⟩
  ·exact ⟨3,rfl,by omega,by omega⟩
 obtain ⟨z,f1,z0,z5⟩:∃ z,(([.int .i64 (1 + w),.int .i64 4,.int .i64 0,.int .i64 5]:List AV)[y.toNat * 1]?)=some (.int .i64 z)∧-1 ≤ z∧z ≤ 5:=by
  have:y=0 ∨ y=1 ∨ y=2 ∨ y=3:=by omega
  rcases this with rfl | rfl | rfl | rfl
  ·exact ⟨1 + w,rfl,by omega,by omega⟩
  ·exact ⟨4,rfl,by omega,by omega⟩
  ·exact ⟨0,rfl,by omega,by omega⟩
  ·exact ⟨5,rfl,by omega,by omega⟩
 refine ⟨n,gs,ss,given,rs,z,H3,?_,adv3.but.pf (Nat.le_refl _) a3 adv3.le,(a8.adv a6 adv3).base (by omega),z0,z5⟩
 have w1:IntKind.i64.wrap (1 + w)=1 + w:=wr (by omega) (by omega)
 unfold spec_DrawSolveSteps.f
 rw [a1,Option.bind_some]
 simp only [AV.toP,Zo]
 rw [a2,Option.bind_some]
 simp only [AV.isTup,AV.nth,AV.isAgg,AV.cel,AV.toI,AV.toS,AV.toB,Zl,Zm,Zc,Zd,if_true,decide_true,beq_self_eq_true,Zt,Zf,Zy,Zx,Zo]
 rw [b1,Option.bind_some]
 simp only [AV.isTup,AV.nth,AV.isAgg,AV.cel,AV.toI,AV.toS,AV.toB,Zl,Zm,Zc,Zd,if_true,decide_true,beq_self_eq_true,Zt,Zf,Zy,Zx,Zo]
 rw [c1,Option.bind_some]
 simp only [AV.isTup,AV.nth,AV.isAgg,AV.cel,AV.toI,AV.toS,AV.toB,Zl,Zm,Zc,Zd,if_true,decide_true,beq_self_eq_true,Zt,Zf,Zy,Zx,Zo]
 rw [dt (show (0:Int) ≤ q by omega),dt (show q < ((7:Nat):Int) by omega),e1]
 simp only [Za,Zt,Zo,AV.cell,AV.toI,if_true]
 rw [dt (show (0:Int) ≤ y by omega),dt (show y < ((4:Nat):Int) by omega),w1,f1]
 simp only [Za,Zt,Zo,AV.cell,AV.toI,if_true]
def Down (most:Int):Int→List (Int × Int)→Prop
 | _,[]=>True
 | x,p :: ps=>p.2 < x∧1 ≤ p.1∧p.1 ≤ most∧Down most p.2 ps
def lastL:Int→List (Int × Int)→Int
 | x,[]=>x
 | _,p :: ps=>lastL p.2 ps
theorem run_down {N:List Int→Int→List Int} {n:Int} {most:Nat} (hN:Good N n most) {l:List Int} (hl:masksOk n l=true):Down most (total l) (stepP (runS N most l))∧lastL (total l) (stepP (runS N most l))=(total (lastV (runS N most l) l):Int):=by
 refine runS_ind hN (C:=fun l r=>Down most (total l) (stepP r)∧lastL (total l) (stepP r)=(total (lastV r l):Int)) ?_ ?_ (total l + 1) l hl (by omega)
 ·intro l hl e; exact ⟨trivial,rfl⟩
 ·intro l t l' hl hl' hs ht e ih
  obtain ⟨h1,_⟩:=next_some _ _ e
  exact ⟨⟨by simp only; omega,h1.1,by simp only; omega,ih.1⟩,ih.2⟩
theorem steps_len2 {n:Int} {given:List Int} {vs:List V} {most:Int}:(stepsL n given vs most).length ≤ 64:=by
 unfold stepsL
 split
 ·rename_i h
  have hg:=narrow_good h.1 (show most.toNat ≤ 4 by omega)
  have ho:=(start_ok h.1).2
  have h1:=(run_end hg ho).2.2.2
  have h2:=total_le ho
  simp only [stepP,List.length_map]; omega
 ·simp
structure RdP (H:Hp) (s:Sl) (ps:List (Int × Int)):Prop where
 len:s.len=ps.length
 rd:∀ i,i < ps.length→ldI .i64 H s.blk (s.off + i * 2)=some (ps.getD i (0,0)).1∧ldI .i64 H s.blk (s.off + i * 2 + 1)=some (ps.getD i (0,0)).2
theorem own_rdP {H0 H:Hp} {s:Sl} {ps:List (Int × Int)} (h:Own 2 H0 H s (ps.flatMap pv)):RdP H s ps:=⟨pv_len h,fun i hi=>pv_rd h hi⟩
theorem nil_rdP {H0 H H':Hp} {s:Sl} {ps:List (Int × Int)} (h:NilP H0 H s ps) (g:H <+: H'):RdP H' s ps:=by
 rcases h with ⟨rfl,rfl⟩ | h
 ·exact ⟨rfl,fun i hi=>absurd hi (Nat.not_lt_zero _)⟩
 ·exact own_rdP (own_pf h g)
theorem eqT_step:eqT PP 53=true:=by kernel_rfl
theorem Steps_l2 (rec:Rec) (k:Nat) {H:Hp} {n most:Int} {gs ss x y:Sl} {ps:List (Int × Int)} (hx:RdP H x ps) (hy:RdP H y ps) (hl:ps.length ≤ 1000) :
  ∀ (j i fuel:Nat) (left:Int),i + j=ps.length→j < fuel→Down most left (ps.drop i)→laws_FnSolveSteps.l2 rec k fuel most x y left i n gs ss H=laws_FnSolveSteps.j4 rec k most x (lastL left (ps.drop i)) n gs ss H:=by
 have hxl:=hx.len
 have hyl:=hy.len
 intro j
 induction j with
 | zero=>
  intro i fuel left hi hf hd
  obtain ⟨fuel,rfl⟩:=Zs fuel (by omega)
  rw [List.drop_eq_nil_of_le (by omega)]
  simp (disch:=omega) only [laws_FnSolveSteps.l2,df,Zf,lastL]
 | succ j ih=>
  intro i fuel left hi hf hd
  obtain ⟨fuel,rfl⟩:=Zs fuel (by omega)
  have hi2:i < ps.length:=by omega
  obtain ⟨r1,r2⟩:=hx.rd i hi2
  obtain ⟨r3,r4⟩:=hy.rd i hi2
  have e:ps.drop i=ps.getD i (0,0) :: ps.drop (i + 1):=by
   rw [List.drop_eq_getElem_cons hi2,List.getD_eq_getElem?_getD,List.getElem?_eq_getElem hi2]; rfl
  rw [e] at hd ⊢
  generalize ps.getD i (0,0)=p at *
  obtain ⟨d1,d2,d3,d4⟩:=hd
  have b1:=ih (i + 1) fuel p.2 (by omega) (by omega) d4
  push_cast at b1
  have q:(!(p.1 == p.1 && p.2 == p.2))=false:=by simp
  simp (disch:=omega) only [laws_FnSolveSteps.l2,laws_FnSolveSteps.j3,laws_FnSolveSteps.j5,laws_FnSolveSteps.j6,dt,df,Za,Zt,Zf,Zn,Zo,Nat.add_zero,r1,r2,r3,r4,chk_eq,eqT_step,q,wr (n:=(i:Int) + 1),b1,lastL]
theorem Steps_j4 {k:Nat} (hk:2000600 ≤ k) {H:Hp} {n most left:Int} {gs ss x:Sl} {given:List Int} {rs:List R} (hz:PuzAt H n gs ss given rs) (hp:puzzleV n given (rs.map R.val)=true) (hmost:1 ≤ most∧most ≤ 4) (hxl:x.len=(stepsL n given (rs.map R.val) most).length)
  (hleft:left=(total (lastV (runS (narrowV n given (rs.map R.val)) most.toNat (openOf n given)) (openOf n given)):Int)) :
  ∃ H',laws_FnSolveSteps.j4 (callF PP orc k) k most x left n gs ss H=some (.bool true,H'):=by
 obtain ⟨s1,s2⟩:=start_ok hp
 obtain ⟨q1,q2,q3⟩:=dm_of s2
 have hn:=hz.n4
 have hg:=narrow_good hp (show most.toNat ≤ 4 by omega)
 obtain ⟨g1,g2,g3,g4⟩:=run_end hg s2
 obtain ⟨r1,r2,r3⟩:=dm_of g1
 obtain ⟨u,H1,a1,a2,a3⟩:=implStartMasks_ok (show 2000010 ≤ k by omega) hz
 rw [s1] at a3
 have ho:=nil_own a3 (ok_ne s2)
 obtain ⟨v,H2,b1,b2,b3⟩:=implNarrowAll_ok (show 2000070 ≤ k by omega) (hz.pf a2) (own_reads ho) ho.nn (by omega) q3 most
 have e0:allV n given (rs.map R.val) (openOf n given) most=(lastV (runS (narrowV n given (rs.map R.val)) most.toNat (openOf n given)) (openOf n given),((runS (narrowV n given (rs.map R.val)) most.toNat (openOf n given)).length:Int)):=by
  unfold allV
  rw [if_pos ⟨hp,s2,hmost⟩]
 rw [e0] at b1 b3
 simp only at b1 b3
 have hc:=implMasksCount_ok (show 2000010 ≤ k by omega) (n:=n) (by omega) b3.reads (by omega) r3
 rw [massV_ok g1] at hc
 have hle:((runS (narrowV n given (rs.map R.val)) most.toNat (openOf n given)).length:Int)=(x.len:Int):=by
  rw [hxl]
  unfold stepsL
  rw [if_pos ⟨hp,hmost⟩]
  simp only [stepP,List.length_map]
 refine ⟨H2,?_⟩
 unfold laws_FnSolveSteps.j4
 rw [a1,Option.bind_some]
 simp only [AV.isTup,AV.nth,AV.isAgg,AV.cel,AV.toI,AV.toS,AV.toB,Zl,Zm,Zc,Zd,if_true,decide_true,beq_self_eq_true,Zt,Zf,Zy,Zx,Zo]
 rw [b1,Option.bind_some]
 simp only [AV.isTup,AV.nth,AV.isAgg,AV.cel,AV.toI,AV.toS,AV.toB,Zl,Zm,Zc,Zd,if_true,decide_true,beq_self_eq_true,Zt,Zf,Zy,Zx,Zo]
 rw [bt hle,cond_true,hc,Option.bind_some]
 simp only [AV.isTup,AV.nth,AV.isAgg,AV.cel,AV.toI,AV.toS,AV.toB,Zl,Zm,Zc,Zd,if_true,decide_true,beq_self_eq_true,Zt,Zf,Zy,Zx,Zo]
 rw [bt hleft]
theorem SolveSteps_law {k:Nat} (hk:2000800 ≤ k) {H:Hp} {s:Sl} {l:List Int} (hs:Reads .u8 H s l) (hb:∀ x ∈ l,0 ≤ x∧x ≤ 255) :
  ∃ H',callF PP orc k laws_FnSolveSteps.id [.sl 1 s] H=some (.bool true,H'):=by
 obtain ⟨k,rfl⟩:=Zs k (by omega)
 rw [laws_FnSolveSteps.call]
 by_cases hbig:(s.len:Int) > 1048576
 ·exact ⟨H,by simp only [laws_FnSolveSteps.f,dt hbig,Zt]⟩
 ·obtain ⟨n,gs,ss,given,rs,z,H1,a1,a2,a3,a4,a5⟩:=DrawSolveSteps_ok (show 2000501 ≤ k by omega) hs hb
  have hz:=a3.at'
  obtain ⟨x,H2,b1,b2,b3⟩:=implSolveSteps_ok (show 2000070 ≤ k by omega) hz z
  obtain ⟨y,H3,c1,c2,c3⟩:=specSolveSteps_ok (show 2000070 ≤ k by omega) (hz.pf b2) z
  have hx:=nil_rdP b3 c2
  have hy:=own_rdP c3
  have hxl:=hx.len
  have hyl:=hy.len
  have hz3:=hz.pf (b2.trans c2)
  have hn:=hz3.n4
  have hv:=specPuzzleValid_ok (show 2000003 ≤ k by omega) hz3.n4 hz3.rg hz3.gl hz3.rr hz3.rl hz3.rc
  rw [puzzle_map] at hv
  have hnone:¬ (puzzleV n given (rs.map R.val)=true∧1 ≤ z∧z ≤ 4)→∃ H',laws_FnSolveSteps.j0 (callF PP orc k) k z x y true n gs ss H3=some (.bool true,H'):=fun hno=>by
   have e:stepsL n given (rs.map R.val) z=[]:=by unfold stepsL; rw [iN hno]
   rw [e] at hxl
   obtain ⟨H4,d1,d2⟩:=alive_ok (show 2000002 ≤ k by omega) H3
   have hz0:(x.len:Int)=0:=by rw [hxl]; rfl
   refine ⟨H4,?_⟩
   unfold laws_FnSolveSteps.j0
   rw [cond_true,bt hz0,cond_true,d1,Option.bind_some]
   simp only [AV.isTup,AV.nth,AV.isAgg,AV.cel,AV.toI,AV.toS,AV.toB,Zl,Zm,Zc,Zd,if_true,decide_true,beq_self_eq_true,Zt,Zf,Zy,Zx,Zo]
  have hlen:(x.len:Int)=(y.len:Int):=by omega
  unfold laws_FnSolveSteps.f
  rw [df hbig,cond_false,a1,Option.bind_some]
  simp only [AV.isTup,AV.nth,AV.isAgg,AV.cel,AV.toI,AV.toS,AV.toB,Zl,Zm,Zc,Zd,if_true,decide_true,beq_self_eq_true,Zt,Zf,Zy,Zx,Zo]
  rw [b1,Option.bind_some]
  simp only [AV.isTup,AV.nth,AV.isAgg,AV.cel,AV.toI,AV.toS,AV.toB,Zl,Zm,Zc,Zd,if_true,decide_true,beq_self_eq_true,Zt,Zf,Zy,Zx,Zo]
  rw [c1,Option.bind_some]
  simp only [AV.isTup,AV.nth,AV.isAgg,AV.cel,AV.toI,AV.toS,AV.toB,Zl,Zm,Zc,Zd,if_true,decide_true,beq_self_eq_true,Zt,Zf,Zy,Zx,Zo]
  rw [nf hlen,cond_false,hv,Option.bind_some]
  simp only [AV.isTup,AV.nth,AV.isAgg,AV.cel,AV.toI,AV.toS,AV.toB,Zl,Zm,Zc,Zd,if_true,decide_true,beq_self_eq_true,Zt,Zf,Zy,Zx,Zo]
  cases e1:puzzleV n given (rs.map R.val) with
  | false=>
   rw [Bool.not_false,cond_true]
   exact hnone (fun h=>by rw [e1] at h; cases h.1)
  | true=>
   rw [Bool.not_true,cond_false]
   by_cases z1:z < 1
   ·rw [dt z1,cond_true]
    exact hnone (fun h=>by omega)
   ·rw [df z1,cond_false]
    by_cases z2:z > 4
    ·rw [dt z2]
     exact hnone (fun h=>by omega)
    ·rw [df z2]
     obtain ⟨s1,s2⟩:=start_ok e1
     obtain ⟨q1,q2,q3⟩:=dm_of s2
     have hg:=narrow_good e1 (show z.toNat ≤ 4 by omega)
     obtain ⟨w1,w2⟩:=run_down hg s2
     obtain ⟨u,H4,d1,d2,d3⟩:=implStartMasks_ok (show 2000010 ≤ k by omega) hz3
     rw [s1] at d3
     have ho:=nil_own d3 (ok_ne s2)
     have hc:=implMasksCount_ok (show 2000010 ≤ k by omega) (n:=n) (by omega) (own_reads ho) (by omega) q3
     rw [massV_ok s2] at hc
     have es:stepsL n given (rs.map R.val) z=stepP (runS (narrowV n given (rs.map R.val)) z.toNat (openOf n given)):=by
      unfold stepsL; rw [if_pos ⟨e1,by omega,by omega⟩]
     have hl64:=steps_len2 (n:=n) (given:=given) (vs:=rs.map R.val) (most:=z)
     have hx4:=nil_rdP b3 (c2.trans d2)
     have hy4:=own_rdP (own_pf c3 d2)
     have hdn:Down z (total (openOf n given)) ((stepsL n given (rs.map R.val) z).drop 0):=by
      rw [List.drop_zero,es]
      have:((z.toNat:Nat):Int)=z:=by omega
      rw [this] at w1
      exact w1
     have hloop:=Steps_l2 (callF PP orc k) k (n:=n) (gs:=gs) (ss:=ss) hx4 hy4 (by omega) (stepsL n given (rs.map R.val) z).length 0 k (total (openOf n given)) (by omega) (by omega) hdn
     rw [List.drop_zero,es,w2] at hloop
     simp only [Int.natCast_zero] at hloop
     obtain ⟨H5,f1⟩:=Steps_j4 (show 2000600 ≤ k by omega) (hz3.pf d2) e1 (most:=z) (by omega) (x:=x) hxl rfl
     refine ⟨H5,?_⟩
     unfold laws_FnSolveSteps.j0
     rw [cond_false]
     unfold laws_FnSolveSteps.j1
     rw [d1,Option.bind_some]
     simp only [AV.isTup,AV.nth,AV.isAgg,AV.cel,AV.toI,AV.toS,AV.toB,Zl,Zm,Zc,Zd,if_true,decide_true,beq_self_eq_true,Zt,Zf,Zy,Zx,Zo]
     rw [hc,Option.bind_some]
     simp only [AV.isTup,AV.nth,AV.isAgg,AV.cel,AV.toI,AV.toS,AV.toB,Zl,Zm,Zc,Zd,if_true,decide_true,beq_self_eq_true,Zt,Zf,Zy,Zx,Zo]
     rw [hloop,f1]
end Go.Proofs.Ytchliocobgkmbaa.Rp
